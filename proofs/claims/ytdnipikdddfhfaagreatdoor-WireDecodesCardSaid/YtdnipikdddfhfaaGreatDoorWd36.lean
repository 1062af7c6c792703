/- Part 36. -/
import Derived.Test.YtdnipikdddfhfaaGreatDoorWd35
set_option linter.unusedVariables false
set_option maxHeartbeats 16000000
namespace Go.Proofs.YtdnipikdddfhfaaGreatDoor
open Lib (hid)
section
open Go.RowKit
attribute [local go_sem] zad Tryz.eqGuard_if
set_option maxRecDepth 20000 in
theorem z5f (w:World) (R:Nat) (C:List Value) (c o:Nat) (hR:Row w R 130 C) (hC:C[9]?=some (zaz c o)):Calls Tryz.prog 28 #[.pointer (some ⟨R,0,none⟩)] w fun e w'=>e=.returned (.slice none 0 0)∧Below w.heap.size w w':=by
 have q9':=hR.cell 9 hC;clear hR hC;unfold zaz at q9';go_enter Tryz.func28,Tryz.ntmps28;go_wp2_with fail;go_ret;exact⟨rfl,Below.refl _ _⟩
set_option maxRecDepth 20000 in
theorem z5g (w:World) (base R:Nat) (L:zg) (s:WS) (h:WkR w base R L s) (ht:s.tag=4) (hl:zk s.l):Calls Tryz.prog 28 #[.pointer (some ⟨R,0,none⟩)] w fun e w'=>(∃a c,e=.returned (.slice a s.vs.length c)∧Frags w' a s.vs.length c (qi s.vs s.l s.ix))∧Below w.heap.size w w':=by
 obtain⟨hR0,part,K,U,C,hU,hC,hR,hu,hB⟩:=h;obtain⟨hn,-⟩:=zlx hB (by omega);simp only[ht,decide_true,Bool.not_true] at hn;unfold WkB at hB;simp only[ht] at hB;obtain⟨rfl,hM⟩:=hB;obtain⟨a,c,rfl,hf⟩:=hM.frags hl;have q9:=hR.cell 9 rfl;have q5:=hR.cell 5 rfl;have q2:=hR.cell 6 rfl;have Hf:=hid hf;unfold zef at q5 hn;clear hR hu hM hf hl ht;go_enter Tryz.func28,Tryz.ntmps28;go_wp2_with fail;go_ret;exact⟨⟨_,_,rfl,Hf.out⟩,Below.refl _ _⟩
structure RdI (L:zg) (l:List Nat) (s:WS) (p:Nat):Prop where
 j:RdJ s p
 pl:p≤l.length
 eq:zd9 (qn l) l.length L s p=j9 L l
theorem RdI.start {L:zg} {l:List Nat}:RdI L l ws0 0:=⟨RdJ.start,Nat.zero_le _,rfl⟩
theorem RdJ.ok {L:zg} {s:WS} {E x p q:Nat} (h:RdJ s p) (hL:LimsI L) (hx:x<18446744073709551616) (hq:q=p+(je x).length) (hqE:q≤E) (hqb:q≤900000000000) (hE:E - q<9223372036854775808):StepOk L s E x p q:=
 ⟨hL,hx,hq,hqE,hqb,hE,h.fit,h.inv,h.tch,h.tag,fun v hv=>by have:=h.num v hv;omega,fun h1 i hi h6=>by have:=h.inner h1 hi h6;have:=zfh 9 x;rw[←zgo] at this;omega⟩
theorem RdI.bad {L:zg} {l:List Nat} {s:WS} {p c:Nat} (h:RdI L l s p) (ht:qn l p=.error c):j9 L l=.error (c,p):=by
 rw[←h.eq,zqr _ _ _ _ _ h.j.inv h.j.tag];unfold nmP;rw[ht]
 rfl
theorem RdI.good {L:zg} {l:List Nat} {s:WS} {p x q:Nat} (h:RdI L l s p) (ht:qn l p=.ok (x,q)):j9 L l=match jd l.length L s x p q with | .error e=>.error e | .ok s'=>zd9 (qn l) l.length L s' q:=by
 rw[←h.eq,zqr _ _ _ _ _ h.j.inv h.j.tag];unfold nmP;rw[ht]
 rfl
theorem RdI.next {L:zg} {l:List Nat} {s s':WS} {p x q:Nat} (hl:∀c∈l,c<256) (h:RdI L l s p) (ht:qn l p=.ok (x,q)) (hs:jd l.length L s x p q=.ok s') (h4:s'.tag<4):RdI L l s' q:=by
 obtain⟨t1,t2,t3,-,-⟩:=zcz hl ht;refine⟨h.j.next t3 t1 hs h4,t2,?_⟩;have:=h.good ht;rw[hs] at this;exact this.symm
theorem RdI.ok {L:zg} {l:List Nat} {s:WS} {p x q:Nat} (hl:∀c∈l,c<256) (hL:LimsI L) (hE:l.length<900000000000) (h:RdI L l s p) (ht:qn l p=.ok (x,q)):StepOk L s l.length x p q:=by
 obtain⟨t1,t2,t3,-,t5⟩:=zcz hl ht;exact h.j.ok hL t3 t5 t2 (by omega) (by omega)
theorem z5h {l:List Nat} {p x q:Nat} (h:qn l p=.ok (x,q)):zbz l p=(x,q,none):=by
 unfold qn at h;unfold zbz;split at h
 · rename_i hs;injection h with h;injection h with h1 h2;subst h1 h2;rw[hs]
   rfl
 · cases h
 · cases h
theorem z5i {l:List Nat} {p c:Nat} (h:qn l p=.error c):zbz l p=(0,0,some ((c:Int),some (p:Int))):=by
 unfold qn at h;unfold zbz;split at h
 · cases h
 · rename_i hs;injection h with h;subst h;rw[hs]
   rfl
 · rename_i h1 h2;injection h with h;subst h;split
   · rename_i hs;exact absurd hs (h1 _ _)
   · rename_i hs;exact absurd hs (h2 _ _)
   · rfl
def zly (r:RR Kno) (e:Ending) (w':World):Prop:=
 match r with
 | .error x=>e=.returned (.tuple #[.slice none 0 0,zaz x.1 x.2])
 | .ok y=>∃a c,e=.returned (.tuple #[.slice a y.1.length c,.nilIface])∧Frags w' a y.1.length c y.1
set_option maxRecDepth 20000 in
theorem ztl (a:Option Addr) (n cap:Nat) (l:List Nat) (L:zg) (w:World) (hB:Byts w a n cap l) (hD:Door w) (hL:LimsI L) (hE:n<900000000000):
 Calls Tryz.prog 16 #[.slice a n cap,lmV L] w fun e w'=>Below w.heap.size w w'∧zly (j9 L l) e w':=by
 have HBg:=hid (fun W=>z4f L W);unfold lmV at HBg ⊢;have hlen:=hB.len;have HB:=hid hB;have HD:=hid hD;have HL:=hid hL;have HE:=hid (show l.length<900000000000 by omega);have Hlen:=hid hlen;have hDb:0<w.heap.size:=zh (p:=⟨0,0,none⟩) hD;have Hlt:=hid hB.lt;clear hB hD hL hlen;go_enter Tryz.func16,Tryz.ntmps16;go_wp2_with fail;refine(HBg.out _).mono ?_;rintro e w1 ⟨R,rfl,hR,hb1⟩;have hbw1:=((Below.refl w.heap.size w).alloc (Nat.le_refl _) (.cells #[.int .i64 L.1,.int .i64 L.2.1,.int .i64 L.2.2.1,.int .i64 L.2.2.2.1,.int .i64 L.2.2.2.2] 24)).trans (hb1.mono (by simp));obtain⟨base,hbase⟩:∃base,base=(w.alloc (.cells #[.int .i64 L.1,.int .i64 L.2.1,.int .i64 L.2.2.1,.int .i64 L.2.2.2.1,.int .i64 L.2.2.2.2] 24)).heap.size:=⟨_,rfl⟩;rw[←hbase] at hR;have hbb:w.heap.size≤base:=by rw[hbase];simp
 have HR:=hid hR;have Hb1:=hid hbw1;have Hbb:=hid hbb;clear hR hb1 hbw1 hbase HBg hbb;go_wp2_with fail;go_loopw [7] (fun i wr=>∃(p:Nat) (s:WS),i=.int .i64 p∧Hid (Below w.heap.size w wr)∧Hid (WkR wr base R L s)∧Hid (RdI L l s p)) (fun i _=>n - (intOf i).toNat)
 case atStart=>exact⟨0,ws0,rfl,Hb1,HR,hid RdI.start⟩
 case round=>
  obtain⟨p,s,rfl,hb,hR,hI⟩:=hrel;have hrd:=zv4 a n cap p l wr (HB.out.below hb.out) (by have:=hI.out.pl;have:=Hlen.out;omega)
  cases htk:qn l p with
  | error c=>
   have hdec:=hI.out.bad htk;rw[z5i htk] at hrd;have Hrd:=hid hrd;have Hdec:=hid hdec;clear hrd htk hdec;simp only[yt] at Hrd;go_wp2_with fail;refine Hrd.out.mono ?_;rintro e w2 ⟨rfl,hb2⟩;have Hb2:=hid (hb.out.trans (hb2.mono hb.out.size));clear hb2;go_wp2_with fail;go_ret2
   exact⟨Hb2.out,by rw[Hdec.out];rfl⟩
  | ok y=>
   obtain⟨x,q⟩:=y;obtain⟨t1,t2,t3,-,-⟩:=zcz Hlt.out htk;have hdec:=hI.out.good htk;rw[z5h htk] at hrd;simp only[yt] at hrd;have Hrd:=hid hrd;have hso:=hI.out.ok Hlt.out HL.out HE.out htk;have hnq:IntKind.i64.wrap ((n:Int) - (q:Int))=((l.length - q:Nat):Int):=by have:=Hlen.out;have:=HE.out;rw[IntKind.wrap_i64];omega
   have HPut:=hid (fun W (h1:Below w.heap.size w W) (h2:WkR W base R L s)=>z5d base R L s l.length x p q W W (Below.refl _ _) h2 (HD.out.keep hDb h1) (by have:=Hbb.out;omega) hso (fun s' h=>(zk7 hI.out.j.inv hI.out.j.tag h).tag));have Hnx:=hid (fun s' h h4=>hI.out.next Hlt.out htk (s':=s') h h4);obtain⟨res,hres⟩:∃res,jd l.length L s x p q=res:=⟨_,rfl⟩;rw[hres] at hdec HPut Hnx;have Hdec:=hid hdec;have Hq:=hid t2;have Hpq:=hid t1;have Hfit:=hid (fun s' (h:res=.ok s')=>zre hI.out.j.fit hI.out.j.inv hI.out.j.tag t3 t1 (hres.trans h));have Htag:=hid (fun s' (h:res=.ok s')=>(zk7 hI.out.j.inv hI.out.j.tag (hres.trans h)).tag);clear hrd htk hdec hso hres t1 t2 t3;go_wp2_with fail;refine Hrd.out.mono ?_;rintro e w2 ⟨rfl,hb2⟩;have hb2':=hb.out.trans (hb2.mono hb.out.size);have HP:=hid (HPut.out w2 hb2' (hR.out.later hb2));have Hb2:=hid hb2';clear hb2 hb2' HPut;go_wp2_with fail;refine HP.out.mono ?_;rintro e w3 ⟨hb3,hr3⟩;have Hb3:=hid (Hb2.out.trans (hb3.mono Hbb.out));clear hb3
   cases res with
   | error y=>
    obtain⟨rfl,C,hC,hc9⟩:=hr3;have HK:=hid (z5f w3 R C _ _ hC hc9);clear hC hc9 HP;unfold zaz;go_wp2_with fail;refine HK.out.mono ?_;rintro e w4 ⟨rfl,hb4⟩;have Hb4:=hid (Hb3.out.trans (hb4.mono Hb3.out.size));clear hb4;go_wp2_with fail;go_ret2
    exact⟨Hb4.out,by rw[Hdec.out];rfl⟩
   | ok s'=>
    obtain⟨rfl,hr3⟩:=hr3;by_cases h4:s'.tag=4
    · have HK:=hid (z5g w3 base R L s' hr3 h4 (Hfit.out s' rfl).l);have hd:decide (s'.tag=4)=true:=decide_eq_true h4;have Hcw:=hid (show zd9 (qn l) l.length L s' q=.ok (qi s'.vs s'.l s'.ix,q) by unfold zd9;simp only[h4]);clear hr3 h4 HP;go_wp2_with fail;refine HK.out.mono ?_;rintro e w4 ⟨⟨aa,cc,rfl,hf⟩,hb4⟩;have Hb4:=hid (Hb3.out.trans (hb4.mono Hb3.out.size));have Hf:=hid hf;clear hb4 hf;go_wp2_with fail;go_ret2;refine⟨Hb4.out,?_⟩;rw[Hdec.out];simp only[Hcw.out];have hlen2:(qi s'.vs s'.l s'.ix).length=s'.vs.length:=by rw[zea];simp
      exact⟨aa,cc,by rw[hlen2];rfl,by rw[hlen2];exact Hf.out⟩
    · have hd:decide (s'.tag=4)=false:=decide_eq_false h4;have HN:=hid (Hnx.out s' rfl (by have:=Htag.out s' rfl;omega));have HR3:=hid hr3;clear hr3 h4 HP;go_wp2_with fail;go_roundw
      case rel=>exact⟨q,s',rfl,Hb3,HR3,HN⟩
      case measure=>have:=Hpq.out;have:=Hq.out;have:=Hlen.out;simp[intOf];omega
end
section
open Go.RowKit
def ztm (r:RR Kno) (e:Ending) (w':World):Prop:=
 match r with
 | .error x=>e=.returned (.tuple #[.slice none 0 0,.int .i64 (x.1:Nat),.int .i64 (x.2:Nat)])
 | .ok y=>∃a c,e=.returned (.tuple #[.slice a y.1.length c,.int .i64 0,.int .i64 (-1)])∧Frags w' a y.1.length c y.1
set_option maxRecDepth 20000 in
theorem z5j (a:Option Addr) (n cap:Nat) (l:List Nat) (L:zg) (w:World) (hB:Byts w a n cap l) (hL:LimsI L) (hn:n≤900000):
 Calls Tryz.prog 17 #[.slice a n cap,lmV L] w fun e w'=>Below w.heap.size w w'∧ztm (j9 L l) e w':=by
 obtain⟨w1,hw1⟩:∃w1,w1=(w.alloc (.cells #[.int .i64 L.1,.int .i64 L.2.1,.int .i64 L.2.2.1,.int .i64 L.2.2.2.1,.int .i64 L.2.2.2.2] 24)).alloc (.cells #[.slice a n cap,.int .i64 0,.int .i64 (n:Nat),.int .i64 0,.int .i64 0,.bool false] 106):=⟨_,rfl⟩;have hb1:Below w.heap.size w w1:=by rw[hw1];exact((Below.refl _ _).alloc (Nat.le_refl _) _).alloc (by simp) _
 have hC:CurM w1 (w.heap.size+1) (.slice a n cap) n (.ok 0):=by
  rw[hw1,show w.heap.size+1=(w.alloc (.cells #[.int .i64 L.1,.int .i64 L.2.1,.int .i64 L.2.2.1,.int .i64 L.2.2.2.1,.int .i64 L.2.2.2.2] 24)).heap.size by simp];exact ju _ _ _
 have hX:Row w1 w.heap.size 24 (zlv L):=by rw[hw1];exact Row.later (ju w _ (zlv L)) ((Below.refl _ _).alloc (Nat.le_refl _) _)
 have hbg:∀W,w1.grownBy W (some (w.heap.size+1))→Below w.heap.size w W:=fun W hW=>hb1.grown hW hb1.size (fun k hk=>by cases hk;omega)
 have HR:=hid (z5e (q:=0) (fun W hW=>(⟨hB.below (hbg W hW),by omega,by omega⟩:Rf W a n cap n l)) hC (Nat.zero_le _) (Nat.zero_le _) hn hL);have hd:qm (zf l n) n L 0=j9 L l:=by unfold j9;rw[←z1x,hB.len]
 rw[hd] at HR;have Herr:=hid (fun e (h:j9 L l=.error e)=>(zte hB.lt h).2);have Hbg:=hid hbg;have Hw1:=hid hw1;have x0:=hX.cell 0 rfl;have x1:=hX.cell 1 rfl;have x2:=hX.cell 2 rfl;have x3:=hX.cell 3 rfl;have x4:=hX.cell 4 rfl;clear hw1 hb1 hC hX hbg hd hB;unfold lmV at HR ⊢;go_enter Tryz.func17,Tryz.ntmps17;go_wp2_with fail;rw[←Hw1.out];refine HR.out.mono ?_;rintro e w2 hres;unfold vx yd at hres;obtain⟨hg2,hres⟩:=hres;have Hb2:=hid (Hbg.out _ hg2);clear x0 x1 x2 x3 x4 hg2
 cases hdec:j9 L l with
 | error ex=>
  have he:=Herr.out ex hdec;rw[hdec] at hres;obtain⟨⟨q,hC2⟩,rfl⟩:=hres;rw[if_neg he] at hC2;have c3:=hC2.cell 3 rfl;have c4:=hC2.cell 4 rfl;have Hd:=hid hdec;have hne:((ex.1:Int) != 0)=true:=by rw[bne_iff_ne];omega
  clear hdec he hC2;go_wp2_with fail;go_quiet (fail);go_wp2_with fail;go_ret3
  exact⟨zy Hb2.out _,by rw[Hd.out];rfl⟩
 | ok y=>
  obtain⟨k,q⟩:=y;rw[hdec] at hres;obtain⟨hC2,aa,cc,rfl,hF⟩:=hres;have c3:=Row.cell hC2 3 rfl;have HF:=hid hF;have Hd:=hid hdec;clear hdec hC2 hF;go_wp2_with fail;go_ret3
  exact⟨Hb2.out,by rw[Hd.out];exact⟨aa,cc,rfl,HF.out⟩⟩
theorem z5k (w:World):Calls Tryz.prog 43 #[] w fun e w'=>e=.returned (lmV unl)∧Below w.heap.size w w':=by
 go_enter Tryz.func43,Tryz.ntmps43;go_wp2_with fail;refine bodyPost_ret (results_cell_row rfl _ _ w.heap.size 24 #[.int .i64 9223372036854775807,.int .i64 9223372036854775807,.int .i64 9223372036854775807,.int .i64 9223372036854775807,.int .i64 9223372036854775807] (0,0) _ rfl (heap_alloc_new w _) Tryz.underlying24 rfl (by kernel_rfl)) rfl ?_;exact⟨rfl,(Below.refl _ _).alloc (Nat.le_refl _) _⟩
theorem z5l:LimsI unl:=⟨⟨by decide,by decide⟩,⟨by decide,by decide⟩,⟨by decide,by decide⟩,⟨by decide,by decide⟩,⟨by decide,by decide⟩⟩
set_option maxRecDepth 20000 in
theorem ztn (a:Option Addr) (n cap:Nat) (l:List Nat) (w:World) (hB:Byts w a n cap l) (hD:Door w) (hE:n<900000000000):
 Calls Tryz.prog 55 #[.slice a n cap] w fun e w'=>Below w.heap.size w w'∧zly (j9 unl l) e w':=by
 have HW:=hid (fun W (hb:Below w.heap.size w W)=>ztl a n cap l unl W (hB.below hb) (hD.keep (zh (p:=⟨0,0,none⟩) hD) hb) z5l hE);clear hB hD;obtain⟨r,hr⟩:∃r,r=j9 unl l:=⟨_,rfl⟩;rw[←hr] at HW ⊢;clear hr;go_enter Tryz.func55,Tryz.ntmps55;go_wp2_with fail;refine(z5k _).mono ?_;rintro e w1 ⟨rfl,hb1⟩;have Hb1:=hid hb1;clear hb1;go_wp2_with fail;refine(HW.out _ Hb1.out).mono ?_;rintro e w2 ⟨hb2,hr⟩;have Hb2:=hid (Hb1.out.trans (hb2.mono Hb1.out.size));clear hb2
 cases r with
 | error x=>
  obtain rfl:=hr;go_wp2_with fail;go_ret2
  exact⟨Hb2.out,rfl⟩
 | ok y=>
  obtain⟨aa,cc,rfl,hf⟩:=hr;have Hf:=hid hf;clear hf;go_wp2_with fail;go_ret2;exact⟨Hb2.out,aa,cc,rfl,Hf.out⟩
abbrev exW:Kno:=[([(1,3)],[(7,5,[])])]
theorem z5m {W:World} {b0:Nat} (h0:W.heap[b0]?=some (.cells #[.int .u64 7,.int .u64 5,.slice none 0 0] 93)):Ents W (some ⟨b0,0,none⟩) 1 1 [(7,5,[])]:=by
 refine⟨rfl,?_,Nat.le_refl _,by omega,(by intro h;cases h),fun _=>⟨b0,0,rfl,fun i hi=>?_⟩⟩
 · intro e he;simp at he;subst he;exact⟨by simp,by simp,fun s hs=>by cases hs⟩
 · obtain rfl:i=0:=by omega
   exact⟨zx (i:=0) h0 rfl,zx (i:=1) h0 rfl,none,0,0,zx (i:=2) h0 rfl,zgu _⟩
theorem z5n {W:World} {b0 b1 b3:Nat} (h0:W.heap[b0]?=some (.cells #[.int .u64 7,.int .u64 5,.slice none 0 0] 93)) (h1:W.heap[b1]?=some (.cells #[.int .u64 1,.int .u64 3] 89))
 (h3:W.heap[b3]?=some (.cells #[.slice (some ⟨b1,0,none⟩) 1 1,.slice (some ⟨b0,0,none⟩) 1 1] 97)):Frags W (some ⟨b3,0,none⟩) 1 1 exW:=by
 have hv:=z5m h0;have i1:Ivs W (some ⟨b1,0,none⟩) 1 1 [(1,3)]:=zjt (s:=(1,3)) h1 (by decide);refine⟨rfl,Nat.le_refl _,by omega,(by intro h;cases h),fun _=>⟨b3,0,rfl,fun i hi=>?_⟩⟩;obtain rfl:i=0:=by omega
 exact⟨⟨_,_,_,zx (i:=0) h3 rfl,i1⟩,⟨_,_,_,zx (i:=1) h3 rfl,hv⟩⟩
theorem z5o:ckF exW=none:=by decide +kernel
theorem z5p:qt exW=exW:=by decide +kernel
theorem zlz:yq (qr exW)=[1,1,7,5,0,1,1,2,0]:=by decide +kernel
theorem z5q:qt []=[]:=by decide +kernel
theorem zl0:yq (qr [])=[0,0]:=by decide +kernel
theorem zto:SmallK exW:=⟨by simp,by simp,by simp,fun f hf e he=>by simp at hf;subst hf;simp at he;subst he;simp⟩
theorem ztp:SmallK []:=⟨by simp,by simp,by simp,fun f hf e he=>by cases hf⟩
theorem ztq:EncK exW:=zlu (fun f hf=>by simp at hf;subst hf;exact⟨fun s hs=>by simp at hs;subst hs;decide,fun e he=>by simp at he;subst he;exact⟨by decide,by decide,fun s hs=>by cases hs⟩,by simp⟩) zto (by decide)
theorem zl1:EncK []:=zlu (fun f hf=>by cases hf) ztp (by decide)
theorem z5r:j9 unl [1,1,7,5,0,1,1,2,0]=.ok (exW,9):=by
 have:=zlt ztq (ziq ztq);rw[zlz] at this;exact this
theorem z5s:j9 unl [0,0,0]=.error (11,2):=by
 have:=(ztd (L:=unl) zl1.can zl1 [0] (by decide)).1 (ziq zl1);rw[zl0] at this;exact this
set_option maxRecDepth 100000 in
theorem z5t (w:World) (hD:Door w):Calls Tryz.prog 15 #[] w fun e w'=>e=.returned (.bool true)∧Below w.heap.size w w':=by
 obtain⟨W,hW⟩:∃W,W=((w.alloc (.cells #[.int .u64 1,.int .u64 3] 89)).alloc (.cells #[.int .u64 7,.int .u64 5,.slice none 0 0] 93)).alloc (.cells #[.slice (some ⟨w.heap.size,0,none⟩) 1 1,.slice (some ⟨w.heap.size+1,0,none⟩) 1 1] 97):=⟨_,rfl⟩;have hal:Below w.heap.size w W:=by rw[hW];exact(((Below.refl _ _).alloc (Nat.le_refl _) _).alloc (by simp) _).alloc (by simp only[World.size_alloc];omega) _
 have hK:Frags W (some ⟨w.heap.size+2,0,none⟩) 1 1 exW:=by
  rw[hW];exact z5n (b0:=w.heap.size+1) (b1:=w.heap.size) (b3:=w.heap.size+2) (zdv _ _ _ _ (yp _ _ _ (by simp))) (zdv _ _ _ _ (zdv _ _ _ _ (yp _ _ _ rfl))) (yp _ _ _ (by simp))
 have HW:=hid hW;have Hal:=hid hal;have HK:=hid (fun V (h:Below W.heap.size W V)=>hK.below h);have HD:=hid (fun V (h:Below w.heap.size w V)=>hD.below (Nat.le_refl _) h);have hE0:=fun V (hd:Door V)=>ztg none 0 0 [] V (zey V) hd rfl ztp (by decide)
 have hE1:=fun V a n c (h:Frags V a n c exW) (hd:Door V)=>ztg a n c exW V h hd z5o zto (by decide)
 have hD1:=fun V a n c (h:Byts V a n c (yq (qr exW))) (hd:Door V) (hn:n<900000000000)=>ztn a n c (yq (qr exW)) V h hd hn
 have hD0:=fun V a n c (h:Byts V a n c (yq (qr [])++[0])) (hd:Door V) (hn:n<900000000000)=>ztn a n c (yq (qr [])++[0]) V h hd hn
 rw[z5q,zl0] at hE0;rw[z5p,zlz] at hE1;rw[zlz,z5r] at hD1;rw[zl0,show ([0,0]++[0]:List Nat)=[0,0,0] from rfl,z5s] at hD0;have HE0:=hid hE0;have HE1:=hid hE1;have HD1:=hid hD1;have HD0:=hid hD0;clear hE0 hE1 hD1 hD0 hW hal hK hD;go_enter Tryz.func15,Tryz.ntmps15;go_wp2_with fail;rw[←HW.out];refine(HE0.out W (HD.out _ Hal.out)).mono ?_;rintro e w1 ⟨⟨a1,c1,rfl,hB1⟩,hb1⟩;have HB1:=hid (fun V (h:Below w1.heap.size w1 V)=>hB1.below h);have HK1:=hid (fun V (h:Below w1.heap.size w1 V)=>HK.out V (hb1.trans (h.mono hb1.size)));have Hb1:=hid (Hal.out.trans (hb1.mono Hal.out.size));clear hb1 hB1;go_wp2_with fail;refine(HE1.out w1 _ _ _ (HK1.out _ (Below.refl _ _)) (HD.out _ Hb1.out)).mono ?_;rintro e w2 ⟨⟨a2,c2,rfl,hB2⟩,hb2⟩;have HB12:=hid (fun V (h:Below w2.heap.size w2 V)=>HB1.out V (hb2.trans (h.mono hb2.size)));have HB2:=hid (fun V (h:Below w2.heap.size w2 V)=>hB2.below h);have HK2:=hid (fun V (h:Below w2.heap.size w2 V)=>HK1.out V (hb2.trans (h.mono hb2.size)));have Hb2:=hid (Hb1.out.trans (hb2.mono Hb1.out.size));clear hb2 hB2;go_wp2_with fail;refine(HD1.out w2 _ _ _ (HB2.out _ (Below.refl _ _)) (HD.out _ Hb2.out) (by simp)).mono ?_;rintro e w3 ⟨hb3,a3,c3,rfl,hK3⟩;have HB13:=hid (fun V (h:Below w3.heap.size w3 V)=>HB12.out V (hb3.trans (h.mono hb3.size)));have HB23:=hid (fun V (h:Below w3.heap.size w3 V)=>HB2.out V (hb3.trans (h.mono hb3.size)));have HK33:=hid (fun V (h:Below w3.heap.size w3 V)=>HK2.out V (hb3.trans (h.mono hb3.size)));have HK3:=hid (fun V (h:Below w3.heap.size w3 V)=>hK3.below h);have Hb3:=hid (Hb2.out.trans (hb3.mono Hb2.out.size));clear hb3 hK3;go_wp2_with fail;have Hb4:=hid (Hb3.out.alloc Hb3.out.size (.cells #[.int .u8 0,.int .u8 0,.int .u8 0] 5));refine(HD0.out _ _ 3 3 (zi5 _ _ _ _ _ _ _ rfl rfl rfl (by decide) (by omega)) (HD.out _ Hb4.out) (by omega)).mono ?_;rintro e w5 ⟨hb5,rfl⟩;have hx:=(Below.refl w3.heap.size w3).alloc (Nat.le_refl _) (.cells #[.int .u8 0,.int .u8 0,.int .u8 0] 5);have hb35:=hx.trans (hb5.mono hx.size);have HB15:=hid (fun V (h:Below w5.heap.size w5 V)=>HB13.out V (hb35.trans (h.mono hb35.size)));have HB25:=hid (fun V (h:Below w5.heap.size w5 V)=>HB23.out V (hb35.trans (h.mono hb35.size)));have HK35:=hid (fun V (h:Below w5.heap.size w5 V)=>HK33.out V (hb35.trans (h.mono hb35.size)));have HK5:=hid (fun V (h:Below w5.heap.size w5 V)=>HK3.out V (hb35.trans (h.mono hb35.size)));have Hb5:=hid (Hb3.out.trans (hb35.mono Hb3.out.size));clear hb5 hx hb35;go_wp2_with fail;have hl6:=(Below.refl w5.heap.size w5).alloc (Nat.le_refl _) (.cells #[.int .u8 0,.int .u8 0] 5);refine(zml a1 _ 2 c1 2 2 [0,0] [0,0] _ (HB15.out _ hl6) (zi5 _ _ _ _ _ _ _ rfl rfl rfl (by decide) (by omega)) true (by simp)).mono ?_;rintro e w6 ⟨rfl,q6,rfl⟩;have H56:=hid (zy hl6 q6);clear hl6;generalize World.drewN _ q6=w6 at*;go_wp2_with fail;have hl7:=(Below.refl w6.heap.size w6).alloc (Nat.le_refl _) (.cells #[.int .u8 1,.int .u8 1,.int .u8 7,.int .u8 5,.int .u8 0,.int .u8 1,.int .u8 1,.int .u8 2,.int .u8 0] 5);refine(zml a2 _ 9 c2 9 9 [1,1,7,5,0,1,1,2,0] [1,1,7,5,0,1,1,2,0] _ (HB25.out _ (H56.out.trans (hl7.mono H56.out.size))) (zi5 _ _ _ _ _ _ _ rfl rfl rfl (by decide) (by omega)) true (by simp)).mono ?_;rintro e w7 ⟨rfl,q7,rfl⟩;have H57:=hid (H56.out.trans ((zy hl7 q7).mono H56.out.size));clear hl7;generalize World.drewN _ q7=w7 at*;go_wp2_with fail;have hS:=zpa a3 (some ⟨w.heap.size+2,0,none⟩) 1 c3 1 1 exW exW w7 (HK5.out _ H57.out) (HK35.out _ H57.out);rw[decide_eq_true rfl] at hS;refine hS.mono ?_;clear hS;rintro e w8 ⟨rfl,hb8⟩;have Hb8:=hid (Hb5.out.trans ((H57.out.trans (hb8.mono H57.out.size)).mono Hb5.out.size));clear hb8;go_wp2_with fail;refine(zc4 (some (11,some 2)) _ (HD.out _ Hb8.out)).mono ?_;rintro e w9 ⟨rfl,hb9⟩;have Hb9:=hid (Hb8.out.trans (hb9.mono Hb8.out.size));clear hb9;simp only[zcm];go_wp2_with fail;refine(zmz (some (11,some 2)) _ (HD.out _ Hb9.out)).mono ?_;rintro e w10 ⟨rfl,hb10⟩;have Hb10:=hid (Hb9.out.trans (hb10.mono Hb9.out.size));clear hb10;simp only[zi7];go_wp2_with fail;go_ret;exact⟨rfl,Hb10.out⟩
set_option maxRecDepth 20000 in
theorem z5u (a:Option Addr) (n cap:Nat) (l:List Nat) (L:zg) (w:World) (hB:Byts w a n cap l) (hLI:LimsI L) (hD:Door w):
 Calls Tryz.prog 3 #[.slice a n cap,lmV L] w fun e w'=>e=.returned (.bool true)∧Below w.heap.size w w':=by
 obtain⟨wB,hwB⟩:∃wB,wB=w.alloc (.cells #[.int .i64 L.1,.int .i64 L.2.1,.int .i64 L.2.2.1,.int .i64 L.2.2.2.1,.int .i64 L.2.2.2.2] 24):=⟨_,rfl⟩;have hbB:Below w.heap.size w wB:=by rw[hwB];exact(Below.refl _ _).alloc (Nat.le_refl _) _
 have HG:=hid (show Row wB w.heap.size 24 [.int .i64 L.1,.int .i64 L.2.1,.int .i64 L.2.2.1,.int .i64 L.2.2.2.1,.int .i64 L.2.2.2.2] from by rw[hwB];exact ju w _ _);have HwB:=hid hwB;have HbB:=hid hbB;have HD:=hid (fun W (h:Below w.heap.size w W)=>hD.below (Nat.le_refl _) h);have HB:=hid (fun W (h:Below w.heap.size w W)=>hB.below h);have HA:=hid (fun W (h:Below w.heap.size w W)=>z5t W (HD.out W h));have hnm:n≤9223372036854775807:=Nat.le_trans hB.room hB.most;clear hB hD hwB hbB;by_cases h5:500<n
 · have hd:decide (500<(n:Int))=true:=by rw[decide_eq_true_iff];omega
   have hd':decide (500<n)=true:=by rw[decide_eq_true_iff];omega
   clear h5;unfold lmV;go_enter Tryz.func3,Tryz.ntmps3;go_wp2_with fail;rw[←HwB.out];refine(HA.out _ HbB.out).mono ?_;rintro e w1 ⟨rfl,hb1⟩;have Hb1:=hid (HbB.out.trans (hb1.mono HbB.out.size));clear hb1;go_wp2_with fail;go_ret;exact⟨rfl,Hb1.out⟩
 have hd:decide (500<(n:Int))=false:=by rw[decide_eq_false_iff_not];omega
 have hd':decide (500<n)=false:=by rw[decide_eq_false_iff_not];omega
 have HDe:=hid (fun W (h:Below w.heap.size w W)=>ztl a n cap l L W (HB.out W h) (HD.out W h) hLI (by omega));have HRf:=hid (fun W (h:Below w.heap.size w W)=>z5j a n cap l L W (HB.out W h) hLI (by omega));have Hdec:=hid (fun x (h:j9 L l=.error x)=>(zte (HB.out _ (Below.refl _ _)).lt h).2)
 obtain⟨k,x,hp,hr⟩:∃(k:Kno) (x:Option (Nat×Nat)),(∀e W,zly (j9 L l) e W→∃a c,e=.returned (.tuple #[.slice a k.length c,yt (x.map fun y=>((y.1:Int),some (y.2:Int)))])∧Frags W a k.length c k)∧
  (∀e W,ztm (j9 L l) e W→∃a c,e=.returned (.tuple #[.slice a k.length c,.int .i64 (zcm (x.map fun y=>((y.1:Int),some (y.2:Int)))),.int .i64 (zi7 (x.map fun y=>((y.1:Int),some (y.2:Int))))])∧Frags W a k.length c k):=by
  cases hd:j9 L l with
  | error y=>exact⟨[],some y,fun e W h=>⟨none,0,h,zey _⟩,fun e W h=>⟨none,0,h,zey _⟩⟩
  | ok y=>exact⟨y.1,none,fun e W h=>h,fun e W h=>h⟩
 generalize (x.map fun y=>((y.1:Int),some (y.2:Int)):Err)=er at*;have Hp:=hid hp;have Hr:=hid hr;clear hp hr h5 hLI;have l0:=HG.out.cell 0 rfl;have l1:=HG.out.cell 1 rfl;have l2:=HG.out.cell 2 rfl;have l3:=HG.out.cell 3 rfl;have l4:=HG.out.cell 4 rfl;unfold lmV at*;go_enter Tryz.func3,Tryz.ntmps3;go_wp2_with fail;rw[←HwB.out];refine(HDe.out _ HbB.out).mono ?_;rintro e w1 ⟨hb1,h1⟩;obtain⟨a1,c1,rfl,hF1⟩:=Hp.out e w1 h1;have hr1:=Row.later HG.out hb1;have Hb1:=hid (HbB.out.trans (hb1.mono HbB.out.size));have HF1:=hid hF1;clear l0 l1 l2 l3 l4 hb1 h1 hF1;have l0:=hr1.cell 0 rfl;have l1:=hr1.cell 1 rfl;have l2:=hr1.cell 2 rfl;have l3:=hr1.cell 3 rfl;have l4:=hr1.cell 4 rfl;clear hr1;go_wp2_with fail;refine(HRf.out _ Hb1.out).mono ?_;rintro e w2 ⟨hb2,h2⟩;obtain⟨a2,c2,rfl,hF2⟩:=Hr.out e w2 h2;have HF12:=hid (HF1.out.below hb2);have HF2:=hid hF2;have Hb2:=hid (Hb1.out.trans (hb2.mono Hb1.out.size));clear l0 l1 l2 l3 l4 hb2 h2 hF2 HF1;go_wp2_with fail;refine(HA.out _ Hb2.out).mono ?_;rintro e w3 ⟨rfl,hb3⟩;have HS:=zpa a1 a2 _ c1 _ c2 k k w3 (HF12.out.below hb3) (HF2.out.below hb3);rw[decide_eq_true rfl] at HS;have HS:=hid HS;have Hb3:=hid (Hb2.out.trans (hb3.mono Hb2.out.size));clear hb3;go_wp2_with fail;refine HS.out.mono ?_;rintro e w4 ⟨rfl,hb4⟩;have Hb4:=hid (Hb3.out.trans (hb4.mono Hb3.out.size));clear hb4;go_wp2_with fail;refine(zc4 er _ (HD.out _ Hb4.out)).mono ?_;rintro e w5 ⟨rfl,hb5⟩;have Hb5:=hid (Hb4.out.trans (hb5.mono Hb4.out.size));clear hb5;go_wp2_with fail;refine(zmz er _ (HD.out _ Hb5.out)).mono ?_;rintro e w6 ⟨rfl,hb6⟩;have Hb6:=hid (Hb5.out.trans (hb6.mono Hb5.out.size));clear hb6;go_wp2_with fail;go_ret;exact⟨rfl,Hb6.out⟩
