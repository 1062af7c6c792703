/- Walks and laws, joined: Wb31. -/
import Derived.Test.YtdnjfnofjaoajaaGreatDoorWb30
set_option linter.unusedVariables false
set_option maxHeartbeats 16000000
namespace Go.Proofs.YtdnjfnofjaoajaaGreatDoor
open Lib (hid)
section
open Go.RowKit
attribute [local go_sem] vq
theorem Row.same_set {w:World} {g i:Nat} {T:TypeId} {C:List Value} {v:Value} (h:Row w g T C) (hi:C[i]?=some v):w.setCell ⟨g,i,none⟩ v=w:=by
 have e:(w.setCell ⟨g,i,none⟩ v).heap=w.heap:=by
  refine Array.ext_getElem? fun k=>?_
  by_cases hk:k=g
  · subst hk;have h2:=h.set i v
    have hc:C.set i v=C:=by
     apply List.ext_getElem?;intro j;rw[List.getElem?_set];split
     · rename_i hj;subst hj;split
       · exact hi.symm
       · rename_i hl;rw[List.getElem?_eq_none (by omega)]
     · rfl
    rw[hc] at h2;exact(show _=_ from h2).trans (show w.heap[k]?=_ from h).symm
  · exact heap_setCell_other w ⟨g,i,none⟩ k v hk
 have e2:w.setCell ⟨g,i,none⟩ v={ w with heap:=(w.setCell ⟨g,i,none⟩ v).heap }:=rfl;rw[e2,e]
theorem VecAt.later {w w':World} {base R:Nat} {L:zt} {K:Value} {U C B:Nat} {s:WS} (h:VecAt w base R L K U C B s) (hb:Below w.heap.size w w'):VecAt w' base R L K U C B s:=by
 rcases h with ⟨h1,⟨ip,h2⟩,h3⟩ | ⟨h1,P,pb,wb,h2,h3,h4,h5,b1,b2,b3,b4,b5,h6⟩
 · exact .inl ⟨h1,⟨ip,h2.later hb⟩,h3.later hb⟩
 · exact .inr ⟨h1,P,pb,wb,h2.later hb,h3,h4.trans (.of_below hb),h5,b1,b2,b3,b4,b5,h6.later hb⟩
theorem WkR.later {w w':World} {base R:Nat} {L:zt} {s:WS} (h:WkR w base R L s) (hb:Below w.heap.size w w'):WkR w' base R L s:=by
 obtain⟨hR0,part,K,U,C,hU,hC,hR,hu,hB⟩:=h;refine⟨hR0,part,K,U,C,hU,hC,hR.later hb,hu.same (hb.block U hu.lt),?_⟩;unfold WkB at hB ⊢;split at hB
 · exact⟨hB.1,hB.2.1.later hb,hB.2.2.later hb⟩
 · obtain⟨B,e,hB0,hc,hV⟩:=hB;exact⟨B,e,hB0,hc.later hb,hV.later hb⟩
 · exact⟨hB.1,hB.2.1.later hb,hB.2.2.later hb⟩
 · obtain⟨B,e,hB0,hM,last,touch,lo0,h1,h2,h3,h4⟩:=hB;exact⟨B,e,hB0,hM.later hb,last,touch,lo0,h1.later hb,h2,h3,h4.later hb⟩
 · exact⟨hB.1,hB.2.later hb⟩
theorem Tryz.pn0 (w:World):(binOp .neq 121 (.iface 116 (.agg #[])) (.iface 124 (.agg #[]))).run Tryz.prog w=.ok (.bool true) w:=by kernel_rfl
theorem Tryz.pn1 (B:Nat) (w:World):(binOp .neq 121 (.iface 186 (.pointer (some ⟨B,0,none⟩))) (.iface 124 (.agg #[]))).run Tryz.prog w=.ok (.bool true) w:=by kernel_rfl
theorem Tryz.pn2 (w:World):(binOp .neq 121 (.iface 190 (.agg #[])) (.iface 124 (.agg #[]))).run Tryz.prog w=.ok (.bool true) w:=by kernel_rfl
theorem Tryz.pn3 (B:Nat) (w:World):(binOp .neq 121 (.iface 192 (.pointer (some ⟨B,0,none⟩))) (.iface 124 (.agg #[]))).run Tryz.prog w=.ok (.bool true) w:=by kernel_rfl
theorem Tryz.pn4 (w:World):(binOp .neq 121 (.iface 124 (.agg #[])) (.iface 124 (.agg #[]))).run Tryz.prog w=.ok (.bool false) w:=by kernel_rfl
theorem Tryz.pe0 (w:World):(binOp .eql 121 (.iface 116 (.agg #[])) (.iface 124 (.agg #[]))).run Tryz.prog w=.ok (.bool false) w:=by kernel_rfl
theorem Tryz.pe1 (B:Nat) (w:World):(binOp .eql 121 (.iface 186 (.pointer (some ⟨B,0,none⟩))) (.iface 124 (.agg #[]))).run Tryz.prog w=.ok (.bool false) w:=by kernel_rfl
theorem Tryz.pe2 (w:World):(binOp .eql 121 (.iface 190 (.agg #[])) (.iface 124 (.agg #[]))).run Tryz.prog w=.ok (.bool false) w:=by kernel_rfl
theorem Tryz.pe3 (B:Nat) (w:World):(binOp .eql 121 (.iface 192 (.pointer (some ⟨B,0,none⟩))) (.iface 124 (.agg #[]))).run Tryz.prog w=.ok (.bool false) w:=by kernel_rfl
theorem Tryz.pe4 (w:World):(binOp .eql 121 (.iface 124 (.agg #[])) (.iface 124 (.agg #[]))).run Tryz.prog w=.ok (.bool true) w:=by kernel_rfl
theorem zo2 {w:World} {base R:Nat} {L:zt} {s:WS} {part K:Value} {U C:Nat} (h:WkB w base R L s part K U C) (hs:s.tag≤4):
 (∀W,(binOp .neq 121 part (.iface 124 (.agg #[]))).run Tryz.prog W=.ok (.bool (!decide (s.tag=4))) W)∧(∀W,(binOp .eql 121 part (.iface 124 (.agg #[]))).run Tryz.prog W=.ok (.bool (decide (s.tag=4))) W):=by
 unfold WkB at h;rcases ht:s.tag with _ | _ | _ | _ | _ | k
 all_goals simp only[ht] at h
 · obtain⟨rfl,-⟩:=h;exact⟨Tryz.pn0,Tryz.pe0⟩
 · obtain⟨B,rfl,-⟩:=h;exact⟨Tryz.pn1 B,Tryz.pe1 B⟩
 · obtain⟨rfl,-⟩:=h;exact⟨Tryz.pn2,Tryz.pe2⟩
 · obtain⟨B,rfl,-⟩:=h;exact⟨Tryz.pn3 B,Tryz.pe3 B⟩
 · obtain⟨rfl,-⟩:=h;exact⟨Tryz.pn4,Tryz.pe4⟩
 · omega
theorem Tryz.eqGuard_if (op:BinOp) (t:TypeId) (x y:Operand) (a:Value) (T:TypeId) (v:Value) (w:World):(eqGuard op t x y a (.iface T v)).run Tryz.prog w=.ok () w:=by
 cases op <;> cases a <;> rfl
attribute [local go_sem] Tryz.eqGuard_if
def WkQ (w:World) (base R:Nat) (L:zt) (r:Except (Nat×Nat) WS) (e:Ending) (w':World):Prop:=
 Below base w w'∧match r with
 | .error x=>e=.returned (.tuple #[.bool true,za0 x.1 x.2])∧∃C,Row w' R 123 C∧C[9]?=some (za0 x.1 x.2)
 | .ok s'=>e=.returned (.tuple #[.bool (decide (s'.tag=4)),.nilIface])∧WkR w' base R L s'
set_option maxRecDepth 20000 in
theorem z7t (base R:Nat) (L:zt) (s:WS) (E x p q:Nat) (w0 w:World) (hb0:Below base w0 w) (h:WkR w base R L s) (hD:Door w) (hDb:0<base) (ho:StepOk L s E x p q) (hok:∀s',qm E L s x p q=.ok s'→s'.tag≤4):
 Calls Tryz.prog 30 #[.pointer (some ⟨R,0,none⟩),.int .u64 (x:Int),.int .i64 (p:Int),.int .i64 ((E - q:Nat):Int)] w (WkQ w0 base R L (qm E L s x p q)):=by
 have HT:=hid (z7s base R L s E x p q w0 w hb0 h hD hDb ho);obtain⟨hR0,part,K,U,C,hU,hC,hR,hu,hB⟩:=h;obtain⟨hn,-⟩:=zo2 hB (Nat.le_of_lt ho.tag);rw[show decide (s.tag=4)=false from decide_eq_false (by have:=ho.tag;omega)] at hn;simp only[Bool.not_false] at hn;have q1:=hR.cell 5 rfl;have q9:=hR.cell 9 rfl;have Hok:=hid hok;obtain⟨res,hres⟩:∃res,qm E L s x p q=res:=⟨_,rfl⟩;rw[hres] at HT Hok ⊢;clear hR hu hB ho hb0 hD hok hres;go_enter Tryz.func30,Tryz.ntmps30;go_wp2_with fail;refine HT.out.mono ?_;rintro e w1 ⟨hb,hr⟩
 cases res with
 | error c=>
  obtain⟨rfl,C',hR',hl⟩:=hr;have z9:=hR'.fz 9
  have q9':∃v,w1.cell? ⟨R,9,none⟩=some v:=by
   obtain⟨v,hv⟩:∃v,C'[9]?=some v:=⟨C'[9],by simp[hl]⟩;exact⟨v,hR'.cell 9 hv⟩
  obtain⟨v9,q9'⟩:=q9';have HR2:=hid (hR'.set 9 (za0 c.1 c.2));have hc2:(C'.set 9 (za0 c.1 c.2))[9]?=some (za0 c.1 c.2):=by simp[hl]
  have r9:=fun k=>(show Row ((w1.setCell ⟨R,9,none⟩ (za0 c.1 c.2)).drewN k) R 123 _ from HR2.out).cell 9 hc2
  have HB:=hid (hb.setCell (p:=⟨R,9,none⟩) hR0 (za0 c.1 c.2));have Hc2:=hid hc2;clear hR' hl hb hc2;clear HT;unfold za0 at HR2 r9 HB Hc2 ⊢;go_wp2;generalize w1.setCell ⟨R,9,none⟩ (.iface 94 (.agg #[.int .i64 (c.1:Int),.int .i64 (c.2:Int)]))=W at*;go_quiet (fail);go_wp2_with fail;go_ret2
  exact⟨ye HB.out _,rfl,_,HR2.out,Hc2.out⟩
 | ok s'=>
  obtain⟨rfl,hR1⟩:=hr;have HR1:=hid hR1;have hs4:=Hok.out s' rfl;obtain⟨-,part',K',U',C',hU',hC',hR',hu',hB'⟩:=hR1;obtain⟨-,he⟩:=zo2 hB' hs4;have z9:=hR'.fz 9;have q9':=hR'.cell 9 rfl;have hsame:w1.setCell ⟨R,9,none⟩ .nilIface=w1:=hR'.same_set rfl;have r9:=fun k=>(show Row (w1.drewN k) R 123 _ from hR').cell 9 rfl
  have r5:=fun k=>(show Row (w1.drewN k) R 123 _ from hR').cell 5 rfl
  have HB:=hid hb;clear hR' hu' hB' hb;go_wp2;go_quiet (fail);go_wp2_with fail;go_ret2;exact⟨ye HB.out _,rfl,HR1.out.later (ye (Below.refl _ _) _)⟩
end
section
open Go.RowKit
attribute [local go_sem] vq Tryz.eqGuard_if
set_option maxRecDepth 20000 in
theorem z7u (w:World) (R:Nat) (C:List Value) (c o:Nat) (hR:Row w R 123 C) (hC:C[9]?=some (za0 c o)):Calls Tryz.prog 31 #[.pointer (some ⟨R,0,none⟩)] w fun e w'=>e=.returned (.slice none 0 0)∧Below w.heap.size w w':=by
 have q9':=hR.cell 9 hC;clear hR hC;unfold za0 at q9';go_enter Tryz.func31,Tryz.ntmps31;go_wp2_with fail;go_ret;exact⟨rfl,Below.refl _ _⟩
set_option maxRecDepth 20000 in
theorem z7v (w:World) (base R:Nat) (L:zt) (s:WS) (h:WkR w base R L s) (ht:s.tag=4) (hl:zq s.l):Calls Tryz.prog 31 #[.pointer (some ⟨R,0,none⟩)] w fun e w'=>(∃a c,e=.returned (.slice a s.vs.length c)∧Frags w' a s.vs.length c (vo s.vs s.l s.ix))∧Below w.heap.size w w':=by
 obtain⟨hR0,part,K,U,C,hU,hC,hR,hu,hB⟩:=h;obtain⟨hn,-⟩:=zo2 hB (by omega);simp only[ht,decide_true,Bool.not_true] at hn;unfold WkB at hB;simp only[ht] at hB;obtain⟨rfl,hM⟩:=hB;obtain⟨a,c,rfl,hf⟩:=hM.frags hl;have q9:=hR.cell 9 rfl;have q5:=hR.cell 5 rfl;have q2:=hR.cell 6 rfl;have Hf:=hid hf;unfold zf0 at q5 hn;clear hR hu hM hf hl ht;go_enter Tryz.func31,Tryz.ntmps31;go_wp2_with fail;go_ret;exact⟨⟨_,_,rfl,Hf.out⟩,Below.refl _ _⟩
structure GoodG (G:WS→Nat→Prop) (L:zt) (l:List Nat):Prop where
 start:G ws0 0
 step:∀s p x q s',G s p→WInv s→s.tag<4→yr l p=.ok (x,q)→qm l.length L s x p q=.ok s'→G s' q
 vf:∀s p,G s p→∀v∈s.vs,VecFits v
 vi:∀s p x q,G s p→yr l p=.ok (x,q)→s.tag=1→∀i,qb L.2.2.1 L.2.2.2.1 s.inner x (l.length - q)=.ok i→i.tag=6→VecFits i.v
structure RdI (G:WS→Nat→Prop) (L:zt) (l:List Nat) (s:WS) (p:Nat):Prop where
 fit:WFit s p
 inv:WInv s
 tch:zfy s
 tag:s.tag<4
 pl:p≤l.length
 g:G s p
 eq:zbu (yr l) l.length L s p=zag L l
theorem RdI.start {G:WS→Nat→Prop} {L:zt} {l:List Nat} (hG:GoodG G L l):RdI G L l ws0 0:=⟨z21,zto,z23,by simp[ws0],Nat.zero_le _,hG.start,rfl⟩
theorem RdI.bad {G:WS→Nat→Prop} {L:zt} {l:List Nat} {s:WS} {p c:Nat} (h:RdI G L l s p) (ht:yr l p=.error c):zag L l=.error (c,p):=by
 rw[←h.eq,zk6 _ _ _ _ _ h.inv h.tag];unfold nmP;rw[ht]
 rfl
theorem RdI.good {G:WS→Nat→Prop} {L:zt} {l:List Nat} {s:WS} {p x q:Nat} (h:RdI G L l s p) (ht:yr l p=.ok (x,q)):zag L l=match qm l.length L s x p q with | .error e=>.error e | .ok s'=>zbu (yr l) l.length L s' q:=by
 rw[←h.eq,zk6 _ _ _ _ _ h.inv h.tag];unfold nmP;rw[ht]
 rfl
theorem RdI.next {G:WS→Nat→Prop} {L:zt} {l:List Nat} {s s':WS} {p x q:Nat} (hl:∀c∈l,c<256) (hG:GoodG G L l) (h:RdI G L l s p) (ht:yr l p=.ok (x,q)) (hs:qm l.length L s x p q=.ok s') (h4:s'.tag<4):RdI G L l s' q:=by
 obtain⟨t1,t2,t3,-,-⟩:=zde hl ht;refine⟨ztw h.fit h.inv h.tag t3 t1 hs,zfx h.inv h.tag hs,z26 h.tch h.inv h.tag hs,h4,t2,hG.step s p x q s' h.g h.inv h.tag ht hs,?_⟩;have:=h.good ht;rw[hs] at this;exact this.symm
theorem RdI.ok {G:WS→Nat→Prop} {L:zt} {l:List Nat} {s:WS} {p x q:Nat} (hl:∀c∈l,c<256) (hL:LimsI L) (hE:l.length<900000000000) (hG:GoodG G L l) (h:RdI G L l s p) (ht:yr l p=.ok (x,q)):StepOk L s l.length x p q:=by
 obtain⟨t1,t2,t3,-,t5⟩:=zde hl ht;exact⟨hL,t3,t5,t2,hE,h.fit,h.inv,h.tch,h.tag,hG.vf s p h.g,fun h1=>hG.vi s p x q h.g ht h1⟩
theorem z7w {l:List Nat} {p x q:Nat} (h:yr l p=.ok (x,q)):zdf l p=(x,q,none):=by
 unfold yr at h;unfold zdf;split at h
 · rename_i hs;injection h with h;injection h with h1 h2;subst h1 h2;rw[hs]
   rfl
 · cases h
 · cases h
theorem z7x {l:List Nat} {p c:Nat} (h:yr l p=.error c):zdf l p=(0,0,some ((c:Int),some (p:Int))):=by
 unfold yr at h;unfold zdf;split at h
 · cases h
 · rename_i hs;injection h with h;subst h;rw[hs]
   rfl
 · rename_i h1 h2;injection h with h;subst h;split
   · rename_i hs;exact absurd hs (h1 _ _)
   · rename_i hs;exact absurd hs (h2 _ _)
   · rfl
def zdv (r:RR Kno) (e:Ending) (w':World):Prop:=
 match r with
 | .error x=>e=.returned (.tuple #[.slice none 0 0,za0 x.1 x.2])
 | .ok y=>∃a c,e=.returned (.tuple #[.slice a y.1.length c,.nilIface])∧Frags w' a y.1.length c y.1
set_option maxRecDepth 20000 in
theorem zwq (G:WS→Nat→Prop) (a:Option Addr) (n cap:Nat) (l:List Nat) (L:zt) (w:World) (hB:Byts w a n cap l) (hD:Door w) (hL:LimsI L) (hG:GoodG G L l) (hE:n<900000000000):
 Calls Tryz.prog 22 #[.slice a n cap,lmV L] w fun e w'=>Below w.heap.size w w'∧zdv (zag L l) e w':=by
 have HBg:=hid (fun W=>z68 L W);unfold lmV at HBg ⊢;have hlen:=hB.len;have HB:=hid hB;have HD:=hid hD;have HL:=hid hL;have HG:=hid hG;have HE:=hid (show l.length<900000000000 by omega);have Hlen:=hid hlen;have hDb:0<w.heap.size:=ze (p:=⟨0,0,none⟩) hD;have Hlt:=hid hB.lt;clear hB hD hL hG hlen;go_enter Tryz.func22,Tryz.ntmps22;go_wp2_with fail;refine(HBg.out _).mono ?_;rintro e w1 ⟨R,rfl,hR,hb1⟩;have hbw1:=((Below.refl w.heap.size w).alloc (Nat.le_refl _) (.cells #[.int .i64 L.1,.int .i64 L.2.1,.int .i64 L.2.2.1,.int .i64 L.2.2.2.1,.int .i64 L.2.2.2.2] 42)).trans (hb1.mono (by simp));obtain⟨base,hbase⟩:∃base,base=(w.alloc (.cells #[.int .i64 L.1,.int .i64 L.2.1,.int .i64 L.2.2.1,.int .i64 L.2.2.2.1,.int .i64 L.2.2.2.2] 42)).heap.size:=⟨_,rfl⟩;rw[←hbase] at hR;have hbb:w.heap.size≤base:=by rw[hbase];simp
 have HR:=hid hR;have Hb1:=hid hbw1;have Hbb:=hid hbb;clear hR hb1 hbw1 hbase HBg hbb;go_wp2_with fail;go_loopw [7] (fun i wr=>∃(p:Nat) (s:WS),i=.int .i64 p∧Hid (Below w.heap.size w wr)∧Hid (WkR wr base R L s)∧Hid (RdI G L l s p)) (fun i _=>n - (intOf i).toNat)
 case atStart=>exact⟨0,ws0,rfl,Hb1,HR,hid (RdI.start HG.out)⟩
 case round=>
  obtain⟨p,s,rfl,hb,hR,hI⟩:=hrel;have hrd:=z3t a n cap p l wr (HB.out.below hb.out) (by have:=hI.out.pl;have:=Hlen.out;omega)
  cases htk:yr l p with
  | error c=>
   have hdec:=hI.out.bad htk;rw[z7x htk] at hrd;have Hrd:=hid hrd;have Hdec:=hid hdec;clear hrd htk hdec;simp only[yl] at Hrd;go_wp2_with fail;refine Hrd.out.mono ?_;rintro e w2 ⟨rfl,hb2⟩;have Hb2:=hid (hb.out.trans (hb2.mono hb.out.size));clear hb2;go_wp2_with fail;go_ret2
   exact⟨Hb2.out,by rw[Hdec.out];rfl⟩
  | ok y=>
   obtain⟨x,q⟩:=y;obtain⟨t1,t2,t3,-,-⟩:=zde Hlt.out htk;have hdec:=hI.out.good htk;rw[z7w htk] at hrd;simp only[yl] at hrd;have Hrd:=hid hrd;have hso:=hI.out.ok Hlt.out HL.out HE.out HG.out htk;have hnq:IntKind.i64.wrap ((n:Int) - (q:Int))=((l.length - q:Nat):Int):=by have:=Hlen.out;have:=HE.out;rw[IntKind.wrap_i64];omega
   have HPut:=hid (fun W (h1:Below w.heap.size w W) (h2:WkR W base R L s)=>z7t base R L s l.length x p q W W (Below.refl _ _) h2 (HD.out.keep hDb h1) (by have:=Hbb.out;omega) hso (fun s' h=>(zfx hI.out.inv hI.out.tag h).tag));have Hnx:=hid (fun s' h h4=>hI.out.next Hlt.out HG.out htk (s':=s') h h4);obtain⟨res,hres⟩:∃res,qm l.length L s x p q=res:=⟨_,rfl⟩;rw[hres] at hdec HPut Hnx;have Hdec:=hid hdec;have Hq:=hid t2;have Hpq:=hid t1;have Hfit:=hid (fun s' (h:res=.ok s')=>ztw hI.out.fit hI.out.inv hI.out.tag t3 t1 (hres.trans h));have Htag:=hid (fun s' (h:res=.ok s')=>(zfx hI.out.inv hI.out.tag (hres.trans h)).tag);clear hrd htk hdec hso hres t1 t2 t3;go_wp2_with fail;refine Hrd.out.mono ?_;rintro e w2 ⟨rfl,hb2⟩;have hb2':=hb.out.trans (hb2.mono hb.out.size);have HP:=hid (HPut.out w2 hb2' (hR.out.later hb2));have Hb2:=hid hb2';clear hb2 hb2' HPut;go_wp2_with fail;refine HP.out.mono ?_;rintro e w3 ⟨hb3,hr3⟩;have Hb3:=hid (Hb2.out.trans (hb3.mono Hbb.out));clear hb3
   cases res with
   | error y=>
    obtain⟨rfl,C,hC,hc9⟩:=hr3;have HK:=hid (z7u w3 R C _ _ hC hc9);clear hC hc9 HP;unfold za0;go_wp2_with fail;refine HK.out.mono ?_;rintro e w4 ⟨rfl,hb4⟩;have Hb4:=hid (Hb3.out.trans (hb4.mono Hb3.out.size));clear hb4;go_wp2_with fail;go_ret2
    exact⟨Hb4.out,by rw[Hdec.out];rfl⟩
   | ok s'=>
    obtain⟨rfl,hr3⟩:=hr3;by_cases h4:s'.tag=4
    · have HK:=hid (z7v w3 base R L s' hr3 h4 (Hfit.out s' rfl).l);have hd:decide (s'.tag=4)=true:=decide_eq_true h4;have Hcw:=hid (show zbu (yr l) l.length L s' q=.ok (vo s'.vs s'.l s'.ix,q) by unfold zbu;simp only[h4]);clear hr3 h4 HP;go_wp2_with fail;refine HK.out.mono ?_;rintro e w4 ⟨⟨aa,cc,rfl,hf⟩,hb4⟩;have Hb4:=hid (Hb3.out.trans (hb4.mono Hb3.out.size));have Hf:=hid hf;clear hb4 hf;go_wp2_with fail;go_ret2;refine⟨Hb4.out,?_⟩;rw[Hdec.out];simp only[Hcw.out];have hlen2:(vo s'.vs s'.l s'.ix).length=s'.vs.length:=by rw[zik];simp
      exact⟨aa,cc,by rw[hlen2];rfl,by rw[hlen2];exact Hf.out⟩
    · have hd:decide (s'.tag=4)=false:=decide_eq_false h4;have HN:=hid (Hnx.out s' rfl (by have:=Htag.out s' rfl;omega));have HR3:=hid hr3;clear hr3 h4 HP;go_wp2_with fail;go_roundw
      case rel=>exact⟨q,s',rfl,Hb3,HR3,HN⟩
      case measure=>have:=Hpq.out;have:=Hq.out;have:=Hlen.out;simp[intOf];omega
end
section
open Go.RowKit
theorem zly {k:Kno} (hk:LtK k) (hs:SmallK k) (hi:yf k≤240):EncK (zh k):=by
 obtain⟨h1,h2,h3⟩:=zut hk (zlh hk hs) hi;obtain⟨c1,c2,-⟩:=zh6 hk;exact⟨c1,c2,h3,by omega,by omega⟩
theorem zf4 (a:Option Addr) (n cap:Nat) (k:Kno) (w:World) (hE:Frags w a n cap k) (hD:Door w) (hck:ckF k=none) (hs:SmallK k) (h240:yf k≤240):
 Calls Tryz.prog 35 #[.slice a n cap] w fun x w'=>(∃b c,x=.returned (.tuple #[.slice b (zo (zk (zh k))).length c,.nilIface])∧Byts w' b (zo (zk (zh k))).length c (zo (zk (zh k))))∧Below w.heap.size w w':=by
 have hk:=zli hE.all hck;have hK:=zly hk hs h240;obtain⟨c1,c2,-⟩:=zh6 hk;obtain⟨-,ic,lc⟩:=zuv hk hs h240;have hJ:=zur hk hs hck;refine(zox a n cap k w hE hD hck hJ (Nat.le_trans (zlg _) (by omega)) c2 c1 (by omega) hK.vec (fun d hd=>by have:=zlq hK d hd;omega) (by omega)).mono ?_;rintro x w' ⟨⟨v,rfl,hv⟩,hb⟩;obtain⟨b,c,rfl,hB⟩:=zek hv (zhb _);exact⟨⟨b,c,rfl,hB⟩,hb⟩
theorem zi1 {l:List Nat} (p:Nat) (y y':Nat×Nat) (h:yr l p=.ok y) (h':yr l p=.ok y'):y=y':=Except.ok.inj (h.symm.trans h')
end
section
theorem zwr {le lh le' lh':Int} {s i j:PS} {x r r':Nat} (h:qb le lh s x r=.ok i) (h':qb le' lh' s x r'=.ok j):i=j:=by
 obtain⟨tag,v,rep,mx,hh,ents,hls,lo⟩:=s;rcases tag with _ | _ | _ | _ | _ | k
 · change (if _ then _ else _)=_ at h;change (if _ then _ else _)=_ at h';split at h
   · cases h
   · split at h'
     · cases h'
     · exact Except.ok.inj (h.symm.trans h')
 · exact Except.ok.inj (h.symm.trans h')
 · exact Except.ok.inj (h.symm.trans h')
 · change (if _ then _ else _)=_ at h;change (if _ then _ else _)=_ at h';split at h
   · cases h
   · split at h'
     · cases h'
     · exact Except.ok.inj (h.symm.trans h')
 · exact Except.ok.inj (h.symm.trans h')
 · exact Except.ok.inj (h.symm.trans h')
theorem zi2 {E:Nat} {s s':WS} {q:Nat} (h:k9 E s q=.ok s'):s'={ s with tag:=4 }:=by
 unfold k9 at h;split at h
 · cases h
 · split at h
   · cases h
   · injection h with h;exact h.symm
theorem z7y {E E':Nat} {L L':zt} {s i j:WS} {x p q:Nat} (h:qm E L s x p q=.ok i) (h':qm E' L' s x p q=.ok j):i=j:=by
 obtain⟨tag,vs,l,ix,left,frm,inner,turn,lo,hi,tch⟩:=s;rcases tag with _ | _ | _ | _ | k
 · change (if _ then _ else _)=_ at h;change (if _ then _ else _)=_ at h';split at h
   · cases h
   · split at h'
     · cases h'
     · exact Except.ok.inj (h.symm.trans h')
 · rw[zv0 rfl] at h h';unfold zbc at h h';split at h
   · cases h
   · split at h'
     · cases h'
     · rename_i a ha _ b hb;have:=zwr ha hb;subst this;exact Except.ok.inj (h.symm.trans h')
 · change (if _ then _ else _)=_ at h;change (if _ then _ else _)=_ at h';split at h
   · cases h
   · split at h'
     · cases h'
     · split at h
       · rename_i hx;rw[if_pos hx] at h';rw[zi2 h,zi2 h']
       · rename_i hx;rw[if_neg hx] at h';exact Except.ok.inj (h.symm.trans h')
 · rw[zwp rfl] at h h';rcases turn with _ | _ | k
   · exact Except.ok.inj (h.symm.trans h')
   · exact Except.ok.inj (h.symm.trans h')
   · change zdu _ _ _ _ _=_ at h;change zdu _ _ _ _ _=_ at h';unfold zdu at h h';split at h
     · cases h
     · rename_i h1;rw[if_neg h1] at h';split at h
       · cases h
       · rename_i h2;rw[if_neg h2] at h';split at h
         · rename_i h3;rw[if_pos h3] at h';rw[zi2 h,zi2 h']
         · rename_i h3;rw[if_neg h3] at h';exact Except.ok.inj (h.symm.trans h')
 · exact Except.ok.inj (h.symm.trans h')
theorem zws {E:Nat} {L:zt} {s s':WS} {x p q:Nat} (h:qm E L s x p q=.ok s'):(∀v∈s.vs,v∈s'.vs)∧(s.tag=1→∀i,qb L.2.2.1 L.2.2.2.1 s.inner x (E - q)=.ok i→i.tag=6→i.v∈s'.vs):=by
 have fin:∀t:WS,t.vs=s.vs→∀t',k9 E t q=.ok t'→∀v∈s.vs,v∈t'.vs:=fun t ht t' h v hv=>by rw[zi2 h];show v∈t.vs;rw[ht];exact hv
 by_cases h1:s.tag=1
 · unfold qm at h;simp only[h1] at h;split at h
   · cases h
   · rename_i i hi;by_cases h6:i.tag=6
     · rw[if_pos h6] at h;split at h
       · cases h
       · have hv:s'.vs=s.vs++[i.v]:=by
          split at h
          · injection h with h;rw[←h]
          · injection h with h;rw[←h]
         refine⟨fun v hm=>by rw[hv];exact List.mem_append_left _ hm,fun _ j hj hj6=>?_⟩;rw[hi] at hj;injection hj with hj;subst hj;rw[hv];simp
     · rw[if_neg h6] at h;injection h with h;refine⟨fun v hm=>by rw[←h];exact hm,fun _ j hj hj6=>?_⟩;rw[hi] at hj;injection hj with hj;subst hj;exact absurd hj6 h6
 · refine⟨?_,fun e=>absurd e h1⟩;unfold qm at h;split at h
   · split at h
     · cases h
     · split at h
       · injection h with h;rw[←h];exact fun v hv=>hv
       · injection h with h;rw[←h];exact fun v hv=>hv
   · rename_i e;exact absurd e h1
   · split at h
     · cases h
     · split at h
       · exact fin _ (by rfl) _ h
       · injection h with h;rw[←h];exact fun v hv=>hv
   · split at h
     · split at h
       · cases h
       · injection h with h;rw[←h];exact fun v hv=>hv
     · split at h
       · injection h with h;rw[←h];exact fun v hv=>hv
       · cases h
     · split at h
       · cases h
       · split at h
         · cases h
         · split at h
           · exact fin _ (by rfl) _ h
           · injection h with h;rw[←h];exact fun v hv=>hv
   · injection h with h;rw[←h];exact fun v hv=>hv
theorem zwt {L:zt} {l:List Nat} (hl:∀c∈l,c<256) {c:Kno} {e:Nat}:∀(d:Nat) (s:WS) (p:Nat),l.length - p≤d→WInv s→zbu (yr l) l.length L s p=.ok (c,e)→∀v∈s.vs,∃f∈c,f.2=v:=by
 have fin:∀(s:WS) (p:Nat),s.tag=4→zbu (yr l) l.length L s p=.ok (c,e)→∀v∈s.vs,∃f∈c,f.2=v:=fun s p h4 h v hv=>by
  unfold zbu at h;simp only[h4] at h;injection h with h;injection h with h _;subst h;obtain⟨i,hi,e⟩:=List.getElem_of_mem hv;refine⟨(itN s.l s.ix i,vg s.vs i),?_,?_⟩
  · rw[zik];exact List.mem_map.2 ⟨i,List.mem_range.2 hi,rfl⟩
  · show vg s.vs i=v;unfold vg;simp[List.getD,hi,e]
 have step:∀(s:WS) (p:Nat),WInv s→s.tag<4→zbu (yr l) l.length L s p=.ok (c,e)→∃x q s',yr l p=.ok (x,q)∧p<q∧q≤l.length∧qm l.length L s x p q=.ok s'∧zbu (yr l) l.length L s' q=.ok (c,e):=fun s p hI h4 h=>by
  rw[zk6 _ _ _ _ _ hI h4] at h;unfold nmP at h
  cases ht:yr l p with
  | error c=>rw[ht] at h;cases h
  | ok y=>
   obtain⟨x,q⟩:=y;rw[ht] at h;simp only[thn] at h;obtain⟨t1,t2,-⟩:=zde hl ht
   cases hs:qm l.length L s x p q with
   | error e=>rw[hs] at h;cases h
   | ok s'=>rw[hs] at h;exact⟨x,q,s',rfl,t1,t2,hs,h⟩
 intro d
 induction d with
 | zero=>
  intro s p hd hI h v hv;by_cases h4:s.tag=4
  · exact fin s p h4 h v hv
  · obtain⟨x,q,s',-,t1,t2,-⟩:=step s p hI (by have:=hI.tag;omega) h
    omega
 | succ d ih=>
  intro s p hd hI h v hv;by_cases h4:s.tag=4
  · exact fin s p h4 h v hv
  · have h4':s.tag<4:=by have:=hI.tag;omega
    obtain⟨x,q,s',ht,t1,t2,hs,hc⟩:=step s p hI h4' h;exact ih s' q (by omega) (zfx hI h4' hs) hc v ((zws hs).1 v hv)
theorem zwu {L L0:zt} {l l0:List Nat} (h0:∀c∈l0,c<256) {c:Kno} {e:Nat} (hd:zag L0 l0=.ok (c,e)) (hv:∀f∈c,VecFits f.2) (hag:∀p y y',yr l p=.ok y→yr l0 p=.ok y'→y=y'):
 GoodG (fun s p=>WInv s∧(s.tag≤4)∧zbu (yr l0) l0.length L0 s p=.ok (c,e)) L l:=by
 have nx:∀(s:WS) (p:Nat),WInv s→s.tag<4→zbu (yr l0) l0.length L0 s p=.ok (c,e)→∃x q s',yr l0 p=.ok (x,q)∧qm l0.length L0 s x p q=.ok s'∧zbu (yr l0) l0.length L0 s' q=.ok (c,e):=fun s p hI h4 h=>by
  rw[zk6 _ _ _ _ _ hI h4] at h;unfold nmP at h
  cases ht:yr l0 p with
  | error c=>rw[ht] at h;cases h
  | ok y=>
   obtain⟨x,q⟩:=y;rw[ht] at h;simp only[thn] at h
   cases hs:qm l0.length L0 s x p q with
   | error e=>rw[hs] at h;cases h
   | ok s'=>rw[hs] at h;exact⟨x,q,s',rfl,hs,h⟩
 refine⟨⟨zto,by simp[ws0],hd⟩,?_,?_,?_⟩
 · rintro s p x q s' ⟨hI,h4',hc⟩ - h4 ht hs;obtain⟨x0,q0,s0,ht0,hs0,hc0⟩:=nx s p hI h4 hc;have e1:=hag p _ _ ht ht0;injection e1 with e1 e2;subst e1 e2;have:=z7y hs hs0;subst this;have hI':=zfx hI h4 hs;exact⟨hI',hI'.tag,hc0⟩
 · rintro s p ⟨hI,h4,hc⟩ v hv';obtain⟨f,hf,rfl⟩:=zwt h0 _ s p (Nat.le_refl _) hI hc v hv';exact hv f hf
 · rintro s p x q ⟨hI,h4,hc⟩ ht h1 i hi h6;obtain⟨x0,q0,s0,ht0,hs0,hc0⟩:=nx s p hI (by omega) hc;have e1:=hag p _ _ ht ht0;injection e1 with e1 e2;subst e1 e2
   have hp:∃j,qb L0.2.2.1 L0.2.2.2.1 s.inner x (l0.length - q)=.ok j:=by
    unfold qm at hs0;simp only[h1] at hs0;split at hs0
    · cases hs0
    · rename_i j hj;exact⟨j,hj⟩
   obtain⟨j,hj⟩:=hp;have:=zwr hi hj;subst this;have hm:=(zws hs0).2 h1 i hj h6;obtain⟨f,hf,he⟩:=zwt h0 _ s0 q (Nat.le_refl _) (zfx hI (by omega) hs0) hc0 i.v hm;rw[←he];exact hv f hf
end
end Go.Proofs.YtdnjfnofjaoajaaGreatDoor
