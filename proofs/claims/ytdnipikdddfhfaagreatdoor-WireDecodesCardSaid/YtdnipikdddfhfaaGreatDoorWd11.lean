/- Part 11. -/
import Derived.Test.YtdnipikdddfhfaaGreatDoorWd10
set_option linter.unusedVariables false
set_option maxHeartbeats 16000000
namespace Go.Proofs.YtdnipikdddfhfaaGreatDoor
open Lib (hid)
section
open Go.RowKit Go.Shelf
attribute [local go_sem] Oper.semAt_some
theorem zom (x y:Option Addr) (n m c d:Nat) (w:World):
 Calls Tryz.prog 265 #[.slice x n c,.slice y m d] w fun e w'=>e=.returned (.func (.func 274) #[] #[.pointer (some ⟨w.heap.size,0,none⟩),.pointer (some ⟨w.heap.size+1,0,none⟩)])∧
  w'=(w.alloc (.cells #[.slice x n c] 91)).alloc (.cells #[.slice y m d] 91):=by
 go_enter Tryz.func265,Tryz.ntmps265;go_wp2;go_ret;exact⟨rfl,rfl⟩
def pcE (p:Pc):Array Value:= #[ivV p.1,.agg #[.bool p.2.1,.bool p.2.2]]
def zon:Value→Nat
 | .slice _ n _=>n
 | _=>0
def zhj (W:World) (b:Nat):Nat:=match W.heap[b]? with | some (.cells C _ _)=>zon (C.getD 0 (.bool false)) | _=>0
def BoxI (w0 W:World) (b:Nat) (l:List Iv):Prop:=∃a n c,W.heap[b]?=some (.cells #[.slice a n c] 91)∧Ivs w0 a n c l
theorem zb0 {W:World} {b:Nat} {v u:Value} {t:TypeId} (h:W.heap[b]?=some (.cells #[v] t)):(W.setCell ⟨b,0,none⟩ u).heap[b]?=some (.cells #[u] t):=by
 simp[World.setCell,Array.getElem?_modify,h]
theorem yz {W:World} {b:Nat} {v:Value} {t:TypeId} (h:W.heap[b]?=some (.cells #[v] t)):W.cell? ⟨b,0,none⟩=some v:=by simp[World.cell?,h]
theorem k9 {W:World} {b:Nat} {v:Value} {t:TypeId} (h:W.heap[b]?=some (.cells #[v] t)):W.frozen? ⟨b,0,none⟩=false:=by simp[World.frozen?,h]
theorem zhk {w0 W:World} {b:Nat} {l:List Iv} (h:BoxI w0 W b l):zhj W b=l.length:=by
 obtain⟨a,n,c,h1,h2⟩:=h;simp[zhj,zon,h1,h2.len]
theorem BoxI.kept {w0 W W':World} {b:Nat} {l:List Iv} (h:BoxI w0 W b l) (hk:W'.heap[b]?=W.heap[b]?):BoxI w0 W' b l:=by
 obtain⟨a,n,c,h1,h2⟩:=h;exact⟨a,n,c,hk.trans h1,h2⟩
theorem zoo {w:World} {blk o k cap:Nat} {s:Iv} {c:List Iv} (h:Ivs w (some ⟨blk,o,none⟩) k cap (s :: c)):
 Ivs w (if cap=1 then some ⟨blk,o,none⟩ else some ⟨blk,o+2,none⟩) (k - 1) (cap - 1) c:=by
 have hl:c.length+1=k:=h.len;have hr:=h.room;have hm:=h.most;refine⟨by omega,fun t ht=>h.lt t (List.mem_cons_of_mem _ ht),by omega,by omega,?_,fun hn=>?_⟩
 · intro e;split at e <;> cases e
 · rw[if_neg (by omega)];obtain⟨b,o',e,hc⟩:=h.cells (by omega);cases e;refine⟨blk,o+2,rfl,fun i hi=>?_⟩;have:=hc (i+1) (by omega);have e1:o+(i+1)*2=o+2+i*2:=by omega
   rw[e1] at this;simpa [za] using this
set_option maxRecDepth 20000 in
theorem zop (n:Nat) (w0 w:World) (ba bb:Nat) (a b:List Iv) (ga:Good a) (gb:Good b) (hb0:Below w0.heap.size w0 w)
 (hsa:BoxI w0 w ba a) (hsb:BoxI w0 w bb b) (hba:w0.heap.size≤ba) (hbb:w0.heap.size≤bb) (hne:ba≠bb):
 zjg n Tryz.prog 274 #[.pointer (some ⟨ba,0,none⟩),.pointer (some ⟨bb,0,none⟩)] pcE (fun ps=>∃y,Chn a b 0 ps y) (fun ps=>Chn a b 0 ps 18446744073709551616)
  (fun k=>k=ba∨k=bb) (fun k=>k<w0.heap.size∨k=ba∨k=bb) w:=by
 intro l J Jx W hl hW hJ hJx hY h0;have hbas:ba<w.heap.size:=by obtain⟨x,k,c,h,_⟩:=hsa;exact(Array.getElem?_eq_some_iff.1 h).1
 have hbbs:bb<w.heap.size:=by obtain⟨x,k,c,h,_⟩:=hsb;exact(Array.getElem?_eq_some_iff.1 h).1
 have Hla:=hid (show zk a from by obtain⟨x,k,c,_,h⟩:=hsa;exact h.lt);have Hlb:=hid (show zk b from by obtain⟨x,k,c,_,h⟩:=hsb;exact h.lt);have Ha:=hid (hsa.kept (hW.block ba hbas));have Hb:=hid (hsb.kept (hW.block bb hbbs));have H0:=hid (hb0.trans (hW.mono hb0.size));have HJ:=hid hJ;have HJx:=hid hJx;have HY:=hid hY;have Hj0:=hid h0;have Hne:=hid hne;have Hba:=hid hba;have Hbb:=hid hbb;have Hga:=hid ga;have Hgb:=hid gb;clear hsa hsb hW hb0 hJ hJx hY h0 hne hba hbb hbas hbbs ga gb hl;refine callsIn_of_wp Tryz.func274 rfl trivial ?_ rfl;simp only[Tryz.ntmps274,List.size_toArray,List.length_cons,List.length_nil,Nat.reduceAdd,Nat.reduceSub,Array.replicate_succ,Array.replicate_zero,List.push_toArray,List.append_toArray,List.nil_append,List.cons_append]
 gi_wp2
 gi_loopw [4] (fun f wr=>∃(x:Nat) (pre:List Pc),f=.int .u64 x∧x<18446744073709551616∧Hid (x∈ve [a,b]∧Chn a b 0 pre x∧Below w0.heap.size w0 wr∧J pre wr)∧Hid (∃u,u≤x∧BoxI w0 wr ba (zj a u))∧Hid (∃u,u≤x∧BoxI w0 wr bb (zj b u)))
  (fun f _=>18446744073709551616 - (intOf f).toNat)
 case atStart=>exact⟨0,[],rfl,by omega,⟨by simp[ve],rfl,H0.out,Hj0.out⟩,⟨0,Nat.le_refl _,by rw[znr];exact Ha.out⟩,⟨0,Nat.le_refl _,by rw[znr];exact Hb.out⟩⟩
 case round=>
  obtain⟨x,pre,rfl,hx,hm,hA,hB⟩:=hrel;refine wpIn_wide.2 ?_;go_upto_block 2 with fail
  go_cut [] (fun wr=>Below w0.heap.size w0 wr∧Hid (J pre wr)∧Hid (BoxI w0 wr ba (zj a x))∧Hid (∃u,u≤x∧BoxI w0 wr bb (zj b u)))
  case first=>
   obtain⟨wx,rfl⟩:∃wx:World,wx=wr:=⟨_,rfl⟩;go_wp2_with fail;go_loopw [] (fun wr=>Below w0.heap.size w0 wr∧Hid (J pre wr)∧Hid (∃c,zj c x=zj a x∧BoxI w0 wr ba c)∧Hid (∃u,u≤x∧BoxI w0 wr bb (zj b u))) (fun wr=>zhj wr ba)
   case atStart=>
    obtain⟨u,hu,hA⟩:=hA.out;exact⟨hm.out.2.2.1,hm.out.2.2.2,⟨_,zjl hu,hA⟩,hB⟩
   case round=>
    obtain⟨hb,hj,hc,hB⟩:=hrel;obtain⟨c,hd,ad,k,cap,hbx,hI⟩:=hc.out;have HB:=hid hb;clear hb hc;have Hbx:=hid hbx;have HI:=hid hI;have Hd:=hid hd;have q1:=yz hbx;have q2:=k9 hbx;clear hbx hI hd
    cases c with
    | nil=>
     obtain rfl:k=0:=by have:=HI.out.len;simpa using this.symm
     have Hz:=hid (show BoxI w0 wr ba (zj a x) from by rw[←Hd.out];exact⟨_,_,_,Hbx.out,HI.out⟩);go_wp2;go_meet
     exact⟨HB.out,hj,Hz,hB⟩
    | cons s c=>
     obtain⟨blk,o,rfl,hcell⟩:=HI.out.cells (by have:=HI.out.len;simp at this;omega);obtain⟨c1,c2⟩:=hcell 0 (by have:=HI.out.len;simp at this;omega);have hk0:0<k:=by have:=HI.out.len;simp at this;omega
     have c2:=(HB.out.cell (p:=⟨blk,o+0*2+1,none⟩) (zh c2)).trans c2;clear hcell c1;obtain⟨p,q⟩:=s;simp only[za,List.getD_cons_zero,Nat.zero_mul,Nat.add_zero] at c2;have hkc:k≤cap:=HI.out.room;have hk1:decide ((0:Int)<(k:Int))=true:=by rw[decide_eq_true_iff];omega
     have hk2:decide (0<k)=true:=by rw[decide_eq_true_iff];omega
     by_cases hq:q<x
     · have hd1:decide ((q:Int)<(x:Int))=true:=by rw[decide_eq_true_iff];omega
       have hd2:decide (q<x)=true:=by rw[decide_eq_true_iff];omega
       have Ht:=hid (zoo HI.out);have Hdt:=hid (show zj c x=zj a x from by rw[←Hd.out,zj,if_pos hq]);clear hq;go_wp2;have hk:=(Kept.refl (fun k=>¬(k=ba∨k=bb)) wr).setCell (a:=⟨ba,0,none⟩) (fun _ e=>e (.inl rfl)) (.slice (if cap=1 then some ⟨blk,o,none⟩ else some ⟨blk,o+2,none⟩) (k - 1) (cap - 1));have hbn:BoxI w0 (wr.setCell ⟨ba,0,none⟩ (.slice (if cap=1 then some ⟨blk,o,none⟩ else some ⟨blk,o+2,none⟩) (k - 1) (cap - 1))) ba c:=⟨_,_,_,zb0 Hbx.out,Ht.out⟩;go_roundw
       case rel=>
        refine⟨HB.out.setCell Hba.out _,HJ.out _ _ _ hj.out hk,⟨c,Hdt.out,hbn⟩,?_⟩;obtain⟨u,hu,hB⟩:=hB.out;exact⟨u,hu,hB.kept (Below.heap_setCell _ _ _ _ (fun e=>Hne.out e.symm))⟩
       case measure=>rw[zhk hbn,zhk ⟨_,_,_,Hbx.out,HI.out⟩];simp
     · have hd1:decide ((q:Int)<(x:Int))=false:=by rw[decide_eq_false_iff_not];omega
       have hd2:decide (q<x)=false:=by rw[decide_eq_false_iff_not];omega
       have Hz:=hid (show BoxI w0 wr ba (zj a x) from by rw[←Hd.out,zj,if_neg hq];exact⟨_,_,_,Hbx.out,HI.out⟩);clear hq;go_wp2;go_meet
       exact⟨HB.out,hj,Hz,hB⟩
  case rest=>
   obtain⟨hb,hj,hA,hB⟩:=hcut;have hm2:=hid (And.intro hm.out.1 hm.out.2.1);clear hm;go_upto_block 4 with fail
   go_cut [] (fun wr=>Below w0.heap.size w0 wr∧Hid (J pre wr)∧Hid (BoxI w0 wr ba (zj a x))∧Hid (BoxI w0 wr bb (zj b x)))
   case first=>
    obtain⟨wx,rfl⟩:∃wx:World,wx=wc:=⟨_,rfl⟩;go_wp2_with fail;go_loopw [] (fun wr=>Below w0.heap.size w0 wr∧Hid (J pre wr)∧Hid (∃c,zj c x=zj b x∧BoxI w0 wr bb c)∧Hid (BoxI w0 wr ba (zj a x))) (fun wr=>zhj wr bb)
    case atStart=>
     obtain⟨u,hu,hB⟩:=hB.out;exact⟨hb,hj,⟨_,zjl hu,hB⟩,hA⟩
    case round=>
     obtain⟨hb,hj,hc,hA⟩:=hrel;obtain⟨c,hd,ad,k,cap,hbx,hI⟩:=hc.out;have HB:=hid hb;clear hb hc;have Hbx:=hid hbx;have HI:=hid hI;have Hd:=hid hd;have q1:=yz hbx;have q2:=k9 hbx;clear hbx hI hd
     cases c with
     | nil=>
      obtain rfl:k=0:=by have:=HI.out.len;simpa using this.symm
      have Hz:=hid (show BoxI w0 wr bb (zj b x) from by rw[←Hd.out];exact⟨_,_,_,Hbx.out,HI.out⟩);go_wp2;go_meet
      exact⟨HB.out,hj,hA,Hz⟩
     | cons s c=>
      obtain⟨blk,o,rfl,hcell⟩:=HI.out.cells (by have:=HI.out.len;simp at this;omega);obtain⟨c1,c2⟩:=hcell 0 (by have:=HI.out.len;simp at this;omega);have hk0:0<k:=by have:=HI.out.len;simp at this;omega
      have c2:=(HB.out.cell (p:=⟨blk,o+0*2+1,none⟩) (zh c2)).trans c2;clear hcell c1;obtain⟨p,q⟩:=s;simp only[za,List.getD_cons_zero,Nat.zero_mul,Nat.add_zero] at c2;have hkc:k≤cap:=HI.out.room;have hk1:decide ((0:Int)<(k:Int))=true:=by rw[decide_eq_true_iff];omega
      have hk2:decide (0<k)=true:=by rw[decide_eq_true_iff];omega
      by_cases hq:q<x
      · have hd1:decide ((q:Int)<(x:Int))=true:=by rw[decide_eq_true_iff];omega
        have hd2:decide (q<x)=true:=by rw[decide_eq_true_iff];omega
        have Ht:=hid (zoo HI.out);have Hdt:=hid (show zj c x=zj b x from by rw[←Hd.out,zj,if_pos hq]);clear hq;go_wp2;have hk:=(Kept.refl (fun k=>¬(k=ba∨k=bb)) wr).setCell (a:=⟨bb,0,none⟩) (fun _ e=>e (.inr rfl)) (.slice (if cap=1 then some ⟨blk,o,none⟩ else some ⟨blk,o+2,none⟩) (k - 1) (cap - 1));have hbn:BoxI w0 (wr.setCell ⟨bb,0,none⟩ (.slice (if cap=1 then some ⟨blk,o,none⟩ else some ⟨blk,o+2,none⟩) (k - 1) (cap - 1))) bb c:=⟨_,_,_,zb0 Hbx.out,Ht.out⟩;go_roundw
        case rel=>
         exact⟨HB.out.setCell Hbb.out _,HJ.out _ _ _ hj.out hk,⟨c,Hdt.out,hbn⟩,hA.out.kept (Below.heap_setCell _ _ _ _ (fun e=>Hne.out e))⟩
        case measure=>rw[zhk hbn,zhk ⟨_,_,_,Hbx.out,HI.out⟩];simp
      · have hd1:decide ((q:Int)<(x:Int))=false:=by rw[decide_eq_false_iff_not];omega
        have hd2:decide (q<x)=false:=by rw[decide_eq_false_iff_not];omega
        have Hz:=hid (show BoxI w0 wr bb (zj b x) from by rw[←Hd.out,zj,if_neg hq];exact⟨_,_,_,Hbx.out,HI.out⟩);clear hq;go_wp2;go_meet
        exact⟨HB.out,hj,hA,Hz⟩
   case rest=>
    obtain⟨wx,rfl⟩:∃wx:World,wx=wc:=⟨_,rfl⟩;obtain⟨hb,hj,hA,hB⟩:=hcut;go_upto_region 5 with fail
    go_cut [5] (fun v wr=>∃r,v=.pointer (some ⟨r,0,none⟩)∧wx.heap.size≤r∧Hid (wr.heap[r]?=some (.cells #[.bool (mem a x),.bool (mem b x)] 336))∧Hid (Below wx.heap.size wx wr))
    case first=>
     have Hma:=hid (znt (x:=x) Hga.out);have Hmb:=hid (znt (x:=x) Hgb.out);obtain⟨aa,ka,ca,ha1,ha2⟩:=hA.out;obtain⟨ab,kb,cb,hb1,hb2⟩:=hB.out;have q1:=yz ha1;have q2:=yz hb1;have hal:=(Below.refl wx.heap.size wx).alloc (Nat.le_refl _) (.cells #[.bool false,.bool false] 336);have q3:=(hal.cell (zh q1)).trans q1;have q4:=(hal.cell (zh q2)).trans q2;clear ha1 hb1 hA hB;have HIa:=hid ha2;have HIb:=hid hb2;clear ha2 hb2;have Hb:=hid hb;clear hb;generalize zj a x=A at*;generalize zj b x=B at*
     cases A with
     | nil=>
      obtain rfl:ka=0:=by have:=HIa.out.len;simpa using this.symm
      cases B with
      | nil=>
       obtain rfl:kb=0:=by have:=HIb.out.len;simpa using this.symm
       go_region
       all_goals go_wp2
       all_goals go_meet
       all_goals exact⟨_,rfl,Nat.le_refl _,(by rw[←Hma.out,←Hmb.out];exact World.alloc_heap_new wx _),((Below.refl _ _).alloc (Nat.le_refl _) _).drew⟩
      | cons t B=>
       obtain⟨blky,oy,rfl,hcelly⟩:=HIb.out.cells (by have:=HIb.out.len;simp at this;omega);obtain⟨cy,-⟩:=hcelly 0 (by have:=HIb.out.len;simp at this;omega);have h0y:0<kb:=by have:=HIb.out.len;simp at this;omega
       have cy:=(Hb.out.cell (p:=⟨blky,oy+0*2,none⟩) (zh cy)).trans cy;clear hcelly;obtain⟨py,qy⟩:=t;simp only[za,List.getD_cons_zero,Nat.zero_mul,Nat.add_zero] at cy;have ry:=(hal.cell (zh cy)).trans cy;have hk1y:decide ((0:Int)<(kb:Int))=true:=by rw[decide_eq_true_iff];omega
       have hk2y:decide (0<kb)=true:=by rw[decide_eq_true_iff];omega
       have hley:(1:Int)≤kb:=by omega
       obtain⟨uy,huy⟩:∃uy,uy=decide (py≤x):=⟨_,rfl⟩;have hd1y:decide ((py:Int)≤(x:Int))=uy:=by rw[huy];exact decide_eq_decide.2 (by omega)
       have hd2y:decide (py≤x)=uy:=huy.symm;have HUy:=hid (show zg8 ((py,qy) :: B) x=uy from hd2y);clear huy;go_region
       all_goals go_wp2
       all_goals go_meet
       all_goals exact⟨_,rfl,Nat.le_refl _,(by rw[←Hma.out,←Hmb.out];rw[HUy.out];exact World.alloc_heap_new wx _),((Below.refl _ _).alloc (Nat.le_refl _) _).drew⟩
     | cons s A=>
      obtain⟨blkx,ox,rfl,hcellx⟩:=HIa.out.cells (by have:=HIa.out.len;simp at this;omega);obtain⟨cx,-⟩:=hcellx 0 (by have:=HIa.out.len;simp at this;omega);have h0x:0<ka:=by have:=HIa.out.len;simp at this;omega
      have cx:=(Hb.out.cell (p:=⟨blkx,ox+0*2,none⟩) (zh cx)).trans cx;clear hcellx;obtain⟨px,qx⟩:=s;simp only[za,List.getD_cons_zero,Nat.zero_mul,Nat.add_zero] at cx;have rx:=(hal.cell (zh cx)).trans cx;have hk1x:decide ((0:Int)<(ka:Int))=true:=by rw[decide_eq_true_iff];omega
      have hk2x:decide (0<ka)=true:=by rw[decide_eq_true_iff];omega
      have hlex:(1:Int)≤ka:=by omega
      obtain⟨ux,hux⟩:∃ux,ux=decide (px≤x):=⟨_,rfl⟩;have hd1x:decide ((px:Int)≤(x:Int))=ux:=by rw[hux];exact decide_eq_decide.2 (by omega)
      have hd2x:decide (px≤x)=ux:=hux.symm;have HUx:=hid (show zg8 ((px,qx) :: A) x=ux from hd2x);clear hux
      cases B with
      | nil=>
       obtain rfl:kb=0:=by have:=HIb.out.len;simpa using this.symm
       go_region
       all_goals go_wp2
       all_goals go_meet
       all_goals exact⟨_,rfl,Nat.le_refl _,(by rw[←Hma.out,←Hmb.out];rw[HUx.out];exact World.alloc_heap_new wx _),((Below.refl _ _).alloc (Nat.le_refl _) _).drew⟩
      | cons t B=>
       obtain⟨blky,oy,rfl,hcelly⟩:=HIb.out.cells (by have:=HIb.out.len;simp at this;omega);obtain⟨cy,-⟩:=hcelly 0 (by have:=HIb.out.len;simp at this;omega);have h0y:0<kb:=by have:=HIb.out.len;simp at this;omega
       have cy:=(Hb.out.cell (p:=⟨blky,oy+0*2,none⟩) (zh cy)).trans cy;clear hcelly;obtain⟨py,qy⟩:=t;simp only[za,List.getD_cons_zero,Nat.zero_mul,Nat.add_zero] at cy;have ry:=(hal.cell (zh cy)).trans cy;have hk1y:decide ((0:Int)<(kb:Int))=true:=by rw[decide_eq_true_iff];omega
       have hk2y:decide (0<kb)=true:=by rw[decide_eq_true_iff];omega
       have hley:(1:Int)≤kb:=by omega
       obtain⟨uy,huy⟩:∃uy,uy=decide (py≤x):=⟨_,rfl⟩;have hd1y:decide ((py:Int)≤(x:Int))=uy:=by rw[huy];exact decide_eq_decide.2 (by omega)
       have hd2y:decide (py≤x)=uy:=huy.symm;have HUy:=hid (show zg8 ((py,qy) :: B) x=uy from hd2y);clear huy;go_region
       all_goals go_wp2
       all_goals go_meet
       all_goals exact⟨_,rfl,Nat.le_refl _,(by rw[←Hma.out,←Hmb.out];rw[HUx.out];rw[HUy.out];exact World.alloc_heap_new wx _),((Below.refl _ _).alloc (Nat.le_refl _) _).drew⟩
    case rest=>
     obtain⟨r,rfl,hr,hst,hbw⟩:=hcut;have Hj:=hid (HJ.out _ _ _ hj.out ((Kept.refl (fun k=>¬(k=ba∨k=bb)) wx).below hbw.out));have HA:=hid (hA.out.kept (hbw.out.block ba (Array.getElem?_eq_some_iff.1 hA.out.choose_spec.choose_spec.choose_spec.1).1));have HB:=hid (hB.out.kept (hbw.out.block bb (Array.getElem?_eq_some_iff.1 hB.out.choose_spec.choose_spec.choose_spec.1).1));have H0c:=hid (hb.trans (hbw.out.mono hb.size));have Hst:=hst;clear hj hA hB hb hbw hst hr;obtain⟨aa,ka,ca,ha1,ha2⟩:=HA.out;obtain⟨ab,kb,cb,hb1,hb2⟩:=HB.out;have q1:=yz ha1;have q2:=yz hb1;clear ha1 hb1;have HIa:=hid (ha2.below H0c.out);have HIb:=hid hb2;clear ha2 hb2;have Hpc:=hid (znw Hla.out Hlb.out Hga.out Hgb.out hm2.out.2 hx hm2.out.1);have HnT:=hid (fun y=>(znw Hla.out Hlb.out Hga.out Hgb.out hm2.out.2 hx hm2.out.1).2 y);have hw01:IntKind.u64.wrap ((0:Int) - 1)=18446744073709551615:=by rw[IntKind.wrap_u64];rfl
     have Hna:=hid (fun w=>zob aa ka ca x (zj a x) w);have Hnb:=hid (fun w=>zob ab kb cb x (zj b x) w);have HdT:=hid (show ∀o,za2 (zj a x) (zj b x) x=o→zc8 a b x=((x,match o with | some y=>y - 1 | none=>18446744073709551615),(mem a x,mem b x)) from fun o h=>by subst h;rfl);have HuT:=hid (show za2 (zj a x) (zj b x) x=(match jf (zj a x) x,jf (zj b x) x with | none,v=>v | some u,none=>some u | some u,some v=>if v<u then some v else some u) from rfl);generalize jf (zj a x) x=na at*;generalize jf (zj b x) x=nb at*
     cases na with
     | none=>
      cases nb with
      | none=>
       have Hsel:=hid (show za2 (zj a x) (zj b x) x=none from HuT.out);clear HuT;go_wp2_with fail;refine(Hna.out _ HIa.out hx).mono ?_;rintro e w3 ⟨rfl,hb3⟩;have Hb3:=hid hb3;clear hb3;have q2:=(Hb3.out.cell (zh q2)).trans q2;simp only[zal,Option.getD,Option.isSome];go_wp2_with fail;refine(Hnb.out _ (HIb.out.below (H0c.out.trans (Hb3.out.mono H0c.out.size))) hx).mono ?_;rintro e w4 ⟨rfl,hb4⟩;have Hb4:=hid (Hb3.out.trans (hb4.mono Hb3.out.size));clear hb4 Hb3;simp only[zal,Option.getD,Option.isSome]
       have z0:w4.cell? ⟨r,0,none⟩=some (.bool (mem a x)):=by
        have h:=Hst.out;refine(Hb4.out.cell (p:=⟨r,0,none⟩) (Array.getElem?_eq_some_iff.1 h).1).trans ?_;simp[World.cell?,h]
       have z1:w4.cell? ⟨r,1,none⟩=some (.bool (mem b x)):=by
        have h:=Hst.out;refine(Hb4.out.cell (p:=⟨r,1,none⟩) (Array.getElem?_eq_some_iff.1 h).1).trans ?_;simp[World.cell?,h]
       have HJ4:=hid (HJ.out _ _ _ Hj.out ((Kept.refl (fun k=>¬(k=ba∨k=bb)) wc).below Hb4.out));have HA4:=hid (HA.out.kept (Hb4.out.block ba (Array.getElem?_eq_some_iff.1 HA.out.choose_spec.choose_spec.choose_spec.1).1));have HB4:=hid (HB.out.kept (Hb4.out.block bb (Array.getElem?_eq_some_iff.1 HB.out.choose_spec.choose_spec.choose_spec.1).1));have H04:=hid (H0c.out.trans (Hb4.out.mono H0c.out.size));clear q1 q2 Hb4;have Hp:=hid (HdT.out _ Hsel.out);have HC:=hid (show Chn a b 0 (pre++[((x,18446744073709551615),(mem a x,mem b x))]) 18446744073709551616 from by have h:=Hpc.out.1;rw[Hp.out] at h;exact h);obtain⟨fn,tmps,assign,body,hy,hR⟩:=HY.out pre ((x,18446744073709551615),(mem a x,mem b x)) w4 ⟨_,HC.out⟩ HJ4.out;simp only[pcE,ivV] at hy
       try rw[show ((18446744073709551615:Nat):Int)=18446744073709551615 from rfl] at hy
       go_upto_region 13 with fail
       refine(wpIn_wide (n:=n)).1 ?_
       gi_wp2
       first | refine hR.mono ?_ | refine⟨fun h=>(by cases h),hR.mono ?_⟩
       rintro e W3 (⟨rfl,hJ3,hk3⟩ | ⟨rfl,hJx3⟩)
       · gi_wp2
         go_wp2;refine bodyPost_ret (results_none rfl _ _ _) rfl ?_;exact⟨⟨_,rfl⟩,.inl ⟨_,HC.out,hJ3⟩⟩
       · gi_wp2
         go_wp2;refine bodyPost_ret (results_none rfl _ _ _) rfl ?_
         exact⟨⟨_,rfl⟩,.inr ⟨_,⟨_,HC.out⟩,hJx3⟩⟩
      | some v=>
       have Hsel:=hid (show za2 (zj a x) (zj b x) x=some v from HuT.out);clear HuT;go_wp2_with fail;refine(Hna.out _ HIa.out hx).mono ?_;rintro e w3 ⟨rfl,hb3⟩;have Hb3:=hid hb3;clear hb3;have q2:=(Hb3.out.cell (zh q2)).trans q2;simp only[zal,Option.getD,Option.isSome];go_wp2_with fail;refine(Hnb.out _ (HIb.out.below (H0c.out.trans (Hb3.out.mono H0c.out.size))) hx).mono ?_;rintro e w4 ⟨rfl,hb4⟩;have Hb4:=hid (Hb3.out.trans (hb4.mono Hb3.out.size));clear hb4 Hb3;simp only[zal,Option.getD,Option.isSome]
       have z0:w4.cell? ⟨r,0,none⟩=some (.bool (mem a x)):=by
        have h:=Hst.out;refine(Hb4.out.cell (p:=⟨r,0,none⟩) (Array.getElem?_eq_some_iff.1 h).1).trans ?_;simp[World.cell?,h]
       have z1:w4.cell? ⟨r,1,none⟩=some (.bool (mem b x)):=by
        have h:=Hst.out;refine(Hb4.out.cell (p:=⟨r,1,none⟩) (Array.getElem?_eq_some_iff.1 h).1).trans ?_;simp[World.cell?,h]
       have HJ4:=hid (HJ.out _ _ _ Hj.out ((Kept.refl (fun k=>¬(k=ba∨k=bb)) wc).below Hb4.out));have HA4:=hid (HA.out.kept (Hb4.out.block ba (Array.getElem?_eq_some_iff.1 HA.out.choose_spec.choose_spec.choose_spec.1).1));have HB4:=hid (HB.out.kept (Hb4.out.block bb (Array.getElem?_eq_some_iff.1 HB.out.choose_spec.choose_spec.choose_spec.1).1));have H04:=hid (H0c.out.trans (Hb4.out.mono H0c.out.size));clear q1 q2 Hb4;obtain⟨hy1,hy2,hy3,hy4⟩:=HnT.out v Hsel.out;have Hp:=hid (HdT.out _ Hsel.out);have HC:=hid (show Chn a b 0 (pre++[((x,v - 1),(mem a x,mem b x))]) v from by have h:=Hpc.out.1;rw[Hp.out] at h;simpa [show v - 1+1=v by omega] using h);have hw1:IntKind.u64.wrap ((v:Int) - 1)=((v - 1:Nat):Int):=by rw[IntKind.wrap_u64];omega
       obtain⟨fn,tmps,assign,body,hy,hR⟩:=HY.out pre ((x,v - 1),(mem a x,mem b x)) w4 ⟨_,HC.out⟩ HJ4.out;simp only[pcE,ivV] at hy
       try rw[show ((18446744073709551615:Nat):Int)=18446744073709551615 from rfl] at hy
       go_upto_region 13 with fail
       refine(wpIn_wide (n:=n)).1 ?_
       gi_wp2
       first | refine hR.mono ?_ | refine⟨fun h=>(by cases h),hR.mono ?_⟩
       rintro e W3 (⟨rfl,hJ3,hk3⟩ | ⟨rfl,hJx3⟩)
       · gi_wp2
         go_wp2;go_roundw
         case rel=>
          have e3:=hk3.toBelow (n:=w0.heap.size) (fun k hk=>.inl hk) H04.out.size;exact⟨v,_,rfl,hy2,⟨hy4,HC.out,H04.out.trans e3,hJ3⟩,⟨x,Nat.le_of_lt hy1,HA4.out.kept (hk3.row ba (Array.getElem?_eq_some_iff.1 HA4.out.choose_spec.choose_spec.choose_spec.1).1 (.inr (.inl rfl)))⟩,⟨x,Nat.le_of_lt hy1,HB4.out.kept (hk3.row bb (Array.getElem?_eq_some_iff.1 HB4.out.choose_spec.choose_spec.choose_spec.1).1 (.inr (.inr rfl)))⟩⟩
         case measure=>simp[intOf];omega
       · gi_wp2
         go_wp2;refine bodyPost_ret (results_none rfl _ _ _) rfl ?_
         exact⟨⟨_,rfl⟩,.inr ⟨_,⟨_,HC.out⟩,hJx3⟩⟩
     | some u=>
      cases nb with
      | none=>
       have Hsel:=hid (show za2 (zj a x) (zj b x) x=some u from HuT.out);clear HuT;go_wp2_with fail;refine(Hna.out _ HIa.out hx).mono ?_;rintro e w3 ⟨rfl,hb3⟩;have Hb3:=hid hb3;clear hb3;have q2:=(Hb3.out.cell (zh q2)).trans q2;simp only[zal,Option.getD,Option.isSome];go_wp2_with fail;refine(Hnb.out _ (HIb.out.below (H0c.out.trans (Hb3.out.mono H0c.out.size))) hx).mono ?_;rintro e w4 ⟨rfl,hb4⟩;have Hb4:=hid (Hb3.out.trans (hb4.mono Hb3.out.size));clear hb4 Hb3;simp only[zal,Option.getD,Option.isSome]
       have z0:w4.cell? ⟨r,0,none⟩=some (.bool (mem a x)):=by
        have h:=Hst.out;refine(Hb4.out.cell (p:=⟨r,0,none⟩) (Array.getElem?_eq_some_iff.1 h).1).trans ?_;simp[World.cell?,h]
       have z1:w4.cell? ⟨r,1,none⟩=some (.bool (mem b x)):=by
        have h:=Hst.out;refine(Hb4.out.cell (p:=⟨r,1,none⟩) (Array.getElem?_eq_some_iff.1 h).1).trans ?_;simp[World.cell?,h]
       have HJ4:=hid (HJ.out _ _ _ Hj.out ((Kept.refl (fun k=>¬(k=ba∨k=bb)) wc).below Hb4.out));have HA4:=hid (HA.out.kept (Hb4.out.block ba (Array.getElem?_eq_some_iff.1 HA.out.choose_spec.choose_spec.choose_spec.1).1));have HB4:=hid (HB.out.kept (Hb4.out.block bb (Array.getElem?_eq_some_iff.1 HB.out.choose_spec.choose_spec.choose_spec.1).1));have H04:=hid (H0c.out.trans (Hb4.out.mono H0c.out.size));clear q1 q2 Hb4;obtain⟨hy1,hy2,hy3,hy4⟩:=HnT.out u Hsel.out;have Hp:=hid (HdT.out _ Hsel.out);have HC:=hid (show Chn a b 0 (pre++[((x,u - 1),(mem a x,mem b x))]) u from by have h:=Hpc.out.1;rw[Hp.out] at h;simpa [show u - 1+1=u by omega] using h);have hw1:IntKind.u64.wrap ((u:Int) - 1)=((u - 1:Nat):Int):=by rw[IntKind.wrap_u64];omega
       obtain⟨fn,tmps,assign,body,hy,hR⟩:=HY.out pre ((x,u - 1),(mem a x,mem b x)) w4 ⟨_,HC.out⟩ HJ4.out;simp only[pcE,ivV] at hy
       try rw[show ((18446744073709551615:Nat):Int)=18446744073709551615 from rfl] at hy
       go_upto_region 13 with fail
       refine(wpIn_wide (n:=n)).1 ?_
       gi_wp2
       first | refine hR.mono ?_ | refine⟨fun h=>(by cases h),hR.mono ?_⟩
       rintro e W3 (⟨rfl,hJ3,hk3⟩ | ⟨rfl,hJx3⟩)
       · gi_wp2
         go_wp2;go_roundw
         case rel=>
          have e3:=hk3.toBelow (n:=w0.heap.size) (fun k hk=>.inl hk) H04.out.size;exact⟨u,_,rfl,hy2,⟨hy4,HC.out,H04.out.trans e3,hJ3⟩,⟨x,Nat.le_of_lt hy1,HA4.out.kept (hk3.row ba (Array.getElem?_eq_some_iff.1 HA4.out.choose_spec.choose_spec.choose_spec.1).1 (.inr (.inl rfl)))⟩,⟨x,Nat.le_of_lt hy1,HB4.out.kept (hk3.row bb (Array.getElem?_eq_some_iff.1 HB4.out.choose_spec.choose_spec.choose_spec.1).1 (.inr (.inr rfl)))⟩⟩
         case measure=>simp[intOf];omega
       · gi_wp2
         go_wp2;refine bodyPost_ret (results_none rfl _ _ _) rfl ?_
         exact⟨⟨_,rfl⟩,.inr ⟨_,⟨_,HC.out⟩,hJx3⟩⟩
      | some v=>
       by_cases hvu:v<u
       · have Hsel:=hid (show za2 (zj a x) (zj b x) x=some v from HuT.out.trans (if_pos hvu));clear HuT;have hd1:decide ((v:Int)<(u:Int))=true:=by rw[decide_eq_true_iff];omega
         have hd2:decide (v<u)=true:=by rw[decide_eq_true_iff];omega
         go_wp2_with fail;refine(Hna.out _ HIa.out hx).mono ?_;rintro e w3 ⟨rfl,hb3⟩;have Hb3:=hid hb3;clear hb3;have q2:=(Hb3.out.cell (zh q2)).trans q2;simp only[zal,Option.getD,Option.isSome];go_wp2_with fail;refine(Hnb.out _ (HIb.out.below (H0c.out.trans (Hb3.out.mono H0c.out.size))) hx).mono ?_;rintro e w4 ⟨rfl,hb4⟩;have Hb4:=hid (Hb3.out.trans (hb4.mono Hb3.out.size));clear hb4 Hb3;simp only[zal,Option.getD,Option.isSome]
         have z0:w4.cell? ⟨r,0,none⟩=some (.bool (mem a x)):=by
          have h:=Hst.out;refine(Hb4.out.cell (p:=⟨r,0,none⟩) (Array.getElem?_eq_some_iff.1 h).1).trans ?_;simp[World.cell?,h]
         have z1:w4.cell? ⟨r,1,none⟩=some (.bool (mem b x)):=by
          have h:=Hst.out;refine(Hb4.out.cell (p:=⟨r,1,none⟩) (Array.getElem?_eq_some_iff.1 h).1).trans ?_;simp[World.cell?,h]
         have HJ4:=hid (HJ.out _ _ _ Hj.out ((Kept.refl (fun k=>¬(k=ba∨k=bb)) wc).below Hb4.out));have HA4:=hid (HA.out.kept (Hb4.out.block ba (Array.getElem?_eq_some_iff.1 HA.out.choose_spec.choose_spec.choose_spec.1).1));have HB4:=hid (HB.out.kept (Hb4.out.block bb (Array.getElem?_eq_some_iff.1 HB.out.choose_spec.choose_spec.choose_spec.1).1));have H04:=hid (H0c.out.trans (Hb4.out.mono H0c.out.size));clear q1 q2 Hb4;obtain⟨hy1,hy2,hy3,hy4⟩:=HnT.out v Hsel.out;have Hp:=hid (HdT.out _ Hsel.out);have HC:=hid (show Chn a b 0 (pre++[((x,v - 1),(mem a x,mem b x))]) v from by have h:=Hpc.out.1;rw[Hp.out] at h;simpa [show v - 1+1=v by omega] using h);have hw1:IntKind.u64.wrap ((v:Int) - 1)=((v - 1:Nat):Int):=by rw[IntKind.wrap_u64];omega
         obtain⟨fn,tmps,assign,body,hy,hR⟩:=HY.out pre ((x,v - 1),(mem a x,mem b x)) w4 ⟨_,HC.out⟩ HJ4.out;simp only[pcE,ivV] at hy
         try rw[show ((18446744073709551615:Nat):Int)=18446744073709551615 from rfl] at hy
         go_upto_region 13 with fail
         refine(wpIn_wide (n:=n)).1 ?_
         gi_wp2
         first | refine hR.mono ?_ | refine⟨fun h=>(by cases h),hR.mono ?_⟩
         rintro e W3 (⟨rfl,hJ3,hk3⟩ | ⟨rfl,hJx3⟩)
         · gi_wp2
           go_wp2;go_roundw
           case rel=>
            have e3:=hk3.toBelow (n:=w0.heap.size) (fun k hk=>.inl hk) H04.out.size;exact⟨v,_,rfl,hy2,⟨hy4,HC.out,H04.out.trans e3,hJ3⟩,⟨x,Nat.le_of_lt hy1,HA4.out.kept (hk3.row ba (Array.getElem?_eq_some_iff.1 HA4.out.choose_spec.choose_spec.choose_spec.1).1 (.inr (.inl rfl)))⟩,⟨x,Nat.le_of_lt hy1,HB4.out.kept (hk3.row bb (Array.getElem?_eq_some_iff.1 HB4.out.choose_spec.choose_spec.choose_spec.1).1 (.inr (.inr rfl)))⟩⟩
           case measure=>simp[intOf];omega
         · gi_wp2
           go_wp2;refine bodyPost_ret (results_none rfl _ _ _) rfl ?_;exact⟨⟨_,rfl⟩,.inr ⟨_,⟨_,HC.out⟩,hJx3⟩⟩
       · have Hsel:=hid (show za2 (zj a x) (zj b x) x=some u from HuT.out.trans (if_neg hvu));clear HuT;have hd1:decide ((v:Int)<(u:Int))=false:=by rw[decide_eq_false_iff_not];omega
         have hd2:decide (v<u)=false:=by rw[decide_eq_false_iff_not];omega
         go_wp2_with fail;refine(Hna.out _ HIa.out hx).mono ?_;rintro e w3 ⟨rfl,hb3⟩;have Hb3:=hid hb3;clear hb3;have q2:=(Hb3.out.cell (zh q2)).trans q2;simp only[zal,Option.getD,Option.isSome];go_wp2_with fail;refine(Hnb.out _ (HIb.out.below (H0c.out.trans (Hb3.out.mono H0c.out.size))) hx).mono ?_;rintro e w4 ⟨rfl,hb4⟩;have Hb4:=hid (Hb3.out.trans (hb4.mono Hb3.out.size));clear hb4 Hb3;simp only[zal,Option.getD,Option.isSome]
         have z0:w4.cell? ⟨r,0,none⟩=some (.bool (mem a x)):=by
          have h:=Hst.out;refine(Hb4.out.cell (p:=⟨r,0,none⟩) (Array.getElem?_eq_some_iff.1 h).1).trans ?_;simp[World.cell?,h]
         have z1:w4.cell? ⟨r,1,none⟩=some (.bool (mem b x)):=by
          have h:=Hst.out;refine(Hb4.out.cell (p:=⟨r,1,none⟩) (Array.getElem?_eq_some_iff.1 h).1).trans ?_;simp[World.cell?,h]
         have HJ4:=hid (HJ.out _ _ _ Hj.out ((Kept.refl (fun k=>¬(k=ba∨k=bb)) wc).below Hb4.out));have HA4:=hid (HA.out.kept (Hb4.out.block ba (Array.getElem?_eq_some_iff.1 HA.out.choose_spec.choose_spec.choose_spec.1).1));have HB4:=hid (HB.out.kept (Hb4.out.block bb (Array.getElem?_eq_some_iff.1 HB.out.choose_spec.choose_spec.choose_spec.1).1));have H04:=hid (H0c.out.trans (Hb4.out.mono H0c.out.size));clear q1 q2 Hb4;obtain⟨hy1,hy2,hy3,hy4⟩:=HnT.out u Hsel.out;have Hp:=hid (HdT.out _ Hsel.out);have HC:=hid (show Chn a b 0 (pre++[((x,u - 1),(mem a x,mem b x))]) u from by have h:=Hpc.out.1;rw[Hp.out] at h;simpa [show u - 1+1=u by omega] using h);have hw1:IntKind.u64.wrap ((u:Int) - 1)=((u - 1:Nat):Int):=by rw[IntKind.wrap_u64];omega
         obtain⟨fn,tmps,assign,body,hy,hR⟩:=HY.out pre ((x,u - 1),(mem a x,mem b x)) w4 ⟨_,HC.out⟩ HJ4.out;simp only[pcE,ivV] at hy
         try rw[show ((18446744073709551615:Nat):Int)=18446744073709551615 from rfl] at hy
         go_upto_region 13 with fail
         refine(wpIn_wide (n:=n)).1 ?_
         gi_wp2
         first | refine hR.mono ?_ | refine⟨fun h=>(by cases h),hR.mono ?_⟩
         rintro e W3 (⟨rfl,hJ3,hk3⟩ | ⟨rfl,hJx3⟩)
         · gi_wp2
           go_wp2;go_roundw
           case rel=>
            have e3:=hk3.toBelow (n:=w0.heap.size) (fun k hk=>.inl hk) H04.out.size;exact⟨u,_,rfl,hy2,⟨hy4,HC.out,H04.out.trans e3,hJ3⟩,⟨x,Nat.le_of_lt hy1,HA4.out.kept (hk3.row ba (Array.getElem?_eq_some_iff.1 HA4.out.choose_spec.choose_spec.choose_spec.1).1 (.inr (.inl rfl)))⟩,⟨x,Nat.le_of_lt hy1,HB4.out.kept (hk3.row bb (Array.getElem?_eq_some_iff.1 HB4.out.choose_spec.choose_spec.choose_spec.1).1 (.inr (.inr rfl)))⟩⟩
           case measure=>simp[intOf];omega
         · gi_wp2
           go_wp2;refine bodyPost_ret (results_none rfl _ _ _) rfl ?_;exact⟨⟨_,rfl⟩,.inr ⟨_,⟨_,HC.out⟩,hJx3⟩⟩
end
section
open Go.RowKit
theorem zd2 (w:World) (x y z:Value) (T:TypeId) (w':World) (h:Below (w.alloc (.cells #[x,y,z] T)).heap.size (w.alloc (.cells #[x,y,z] T)) w'):
 w'.cell? ⟨w.heap.size,0,none⟩=some x∧w'.cell? ⟨w.heap.size,1,none⟩=some y∧w'.cell? ⟨w.heap.size,2,none⟩=some z:=by
 have hrow:(w.alloc (.cells #[x,y,z] T)).heap[w.heap.size]?=some (.cells #[x,y,z] T):=yh rfl
 exact⟨(h.cell (p:=⟨w.heap.size,0,none⟩) (by simp)).trans (zx (i:=0) hrow rfl),
  (h.cell (p:=⟨w.heap.size,1,none⟩) (by simp)).trans (zx (i:=1) hrow rfl),
  (h.cell (p:=⟨w.heap.size,2,none⟩) (by simp)).trans (zx (i:=2) hrow rfl)⟩
theorem zw0 (e f:Ent) (a d:Option Addr) (n c m k:Nat) (w:World) (hI:Ivs w a n c e.2.2) (hJ:Ivs w d m k f.2.2):
 Calls Tryz.prog 101 #[zbm e (.slice a n c),zbm f (.slice d m k)] w fun x w'=>x=.returned (.bool (decide (e=f)))∧Below w.heap.size w w':=by
 obtain⟨r,x,hs⟩:=e;obtain⟨r',x',hs'⟩:=f;simp only at hI hJ;obtain⟨W1,hW1⟩:∃W1,W1=w.alloc (.cells #[.int .u64 r,.int .u64 x,.slice a n c] 93):=⟨_,rfl⟩;have hal:Below w.heap.size w W1:=by rw[hW1];exact(Below.refl _ _).alloc (Nat.le_refl _) _
 have hsz:W1.heap.size=w.heap.size+1:=by rw[hW1];simp
 have hal2:Below W1.heap.size W1 (W1.alloc (.cells #[.int .u64 r',.int .u64 x',.slice d m k] 93)):=(Below.refl _ _).alloc (Nat.le_refl _) _;obtain⟨q0,q1,q2⟩:=zd2 w (.int .u64 r) (.int .u64 x) (.slice a n c) 93 (W1.alloc (.cells #[.int .u64 r',.int .u64 x',.slice d m k] 93)) (hW1 ▸ hal2);obtain⟨q3,q4,q5⟩:=zd2 W1 (.int .u64 r') (.int .u64 x') (.slice d m k) 93 _ (Below.refl _ _);have HA:=hid (hal.trans (hal2.mono hal.size));have hC:=hid (zmx a d n c m k hs hs' _ (hI.below HA.out) (hJ.below HA.out));rw[hW1] at q0 q1 q2 q3 q4 q5 HA hC;simp only[World.size_alloc] at q3 q4 q5
 have hdec:decide (((r,x,hs):Ent)=(r',x',hs'))=((decide (r=r') && decide (x=x')) && decide (hs=hs')):=by
  rw[Bool.eq_iff_iff];simp[and_assoc]
 rw[hdec];clear hI hJ hal hal2 hsz hdec hW1;generalize decide (hs=hs')=b at*;by_cases h1:r=r'
 · subst h1;by_cases h2:x=x'
   · subst h2;have d1:True:=trivial;have d2:True:=trivial;go_enter Tryz.func101,Tryz.ntmps101;go_wp2_with fail;refine hC.out.mono ?_;rintro e w1 ⟨rfl,hb1⟩;have Hb1:=hid hb1;clear hb1;go_wp2;go_ret;exact⟨by simp,HA.out.trans (Hb1.out.mono HA.out.size)⟩
   · have d1:True:=trivial;have d2:decide (x=x')=false:=by simpa using h2
     have t2:(((x:Nat):Int) == ((x':Nat):Int))=false:=by rw[beq_eq_false_iff_ne];omega
     clear h2;go_enter Tryz.func101,Tryz.ntmps101;go_wp2;go_ret;exact⟨by simp[d2],HA.out⟩
 · have d1:decide (r=r')=false:=by simpa using h1
   have t1:(((r:Nat):Int) == ((r':Nat):Int))=false:=by rw[beq_eq_false_iff_ne];omega
   clear h1;go_enter Tryz.func101,Tryz.ntmps101;go_wp2;go_ret;exact⟨by simp[d1],HA.out⟩
theorem Ents.at {w:World} {b o n cap:Nat} {v:Vec} (h:Ents w (some ⟨b,o,none⟩) n cap v) {k:Nat} (hk:k<n):∀w',Below w.heap.size w w'→
 w'.cell? ⟨b,o+k*3,none⟩=some (.int .u64 (((ze v k).1:Nat):Int))∧w'.cell? ⟨b,o+k*3+1,none⟩=some (.int .u64 (((ze v k).2.1:Nat):Int))∧
  ∃x m c,w'.cell? ⟨b,o+k*3+2,none⟩=some (.slice x m c)∧Ivs w' x m c (ze v k).2.2:=by
 intro w' hb;obtain⟨b',o',hs,hc⟩:=h.cells (by omega);cases hs;obtain⟨h1,h2,x,m,c,h3,h4⟩:=hc k hk;exact⟨(hb.cell (p:=⟨b,o+k*3,none⟩) (zh h1)).trans h1,(hb.cell (p:=⟨b,o+k*3+1,none⟩) (zh h2)).trans h2,x,m,c,(hb.cell (p:=⟨b,o+k*3+2,none⟩) (zh h3)).trans h3,h4.below hb⟩
theorem Ents.fix {w:World} {b o n cap:Nat} {v:Vec} (h:Ents w (some ⟨b,o,none⟩) n cap v) {k:Nat} (hk:k<n):∃x m c,∀w',Below w.heap.size w w'→
 w'.cell? ⟨b,o+k*3,none⟩=some (.int .u64 (((ze v k).1:Nat):Int))∧w'.cell? ⟨b,o+k*3+1,none⟩=some (.int .u64 (((ze v k).2.1:Nat):Int))∧
  w'.cell? ⟨b,o+k*3+2,none⟩=some (.slice x m c)∧Ivs w' x m c (ze v k).2.2:=by
 obtain⟨b',o',hs,hc⟩:=h.cells (by omega);cases hs;obtain⟨h1,h2,x,m,c,h3,h4⟩:=hc k hk;exact⟨x,m,c,fun w' hb=>⟨(hb.cell (p:=⟨b,o+k*3,none⟩) (zh h1)).trans h1,(hb.cell (p:=⟨b,o+k*3+1,none⟩) (zh h2)).trans h2,(hb.cell (p:=⟨b,o+k*3+2,none⟩) (zh h3)).trans h3,h4.below hb⟩⟩
theorem Ents.some {w:World} {a:Option Addr} {n cap:Nat} {v:Vec} (h:Ents w a n cap v) (hn:0<n):∃b o,a=some ⟨b,o,none⟩:=by
 obtain⟨b,o,ha,-⟩:=h.cells hn;exact⟨b,o,ha⟩
def zfy (v:Vec) (r:Nat):Option Nat:=jy (fun i=>if (ze v i).1=r then some i else none) v.length
def zhl (o:Option Nat):Int:=match o with | some i=>(i:Int) | none=> -1
theorem zw1 {v:Vec} {r i:Nat} (h:zfy v r=some i):i<v.length∧(ze v i).1=r:=by
 obtain⟨k,h1,-,h3⟩:=zfn h;split at h3
 · rename_i h4;cases h3;exact⟨h1,h4⟩
 · cases h3
theorem zw2 {v:Vec} {r:Nat} (h:zfy v r=none):∀e∈v,e.1≠r:=by
 intro e he hr;obtain⟨i,hi,rfl⟩:=List.getElem_of_mem he;have:=zdx h i hi;rw[ja hi,if_pos hr] at this;cases this
set_option maxRecDepth 20000 in
theorem zw3 (a d:Option Addr) (n c n' c':Nat) (v u:Vec) (w:World) (hE:Ents w a n c v) (hF:Ents w d n' c' u):
 Calls Tryz.prog 60 #[.slice a n c,.slice d n' c'] w fun x w'=>x=.returned (.bool (decide (v=u)))∧Below w.heap.size w w':=by
 have HE:=hid hE;have HF:=hid hF;have Hl:=hid hE.len;have Hl':=hid hF.len;have hm:n≤9223372036854775807:=Nat.le_trans hE.room hE.most;have hm':n'≤9223372036854775807:=Nat.le_trans hF.room hF.most;clear hE hF;by_cases hne:n=n'
 · subst hne;have hz:((n:Int) != (n:Int))=false:=by simp
   go_enter Tryz.func60,Tryz.ntmps60;go_wp2;go_loopw [5] (fun i wr=>∃k:Nat,k≤n∧i=.int .i64 k∧Below w.heap.size w wr∧Hid (∀j,j<k→ze v j=ze u j)) (fun i _=>n - (intOf i).toNat)
   case atStart=>exact⟨0,by omega,rfl,Below.refl _ _,fun j h=>by omega⟩
   case round=>
    obtain⟨k,hk,rfl,hb,ht⟩:=hrel;have Hb:=hid hb;clear hb;by_cases hkn:k<n
    · have HEr:=hid (HE.out.below Hb.out);have HFr:=hid (HF.out.below Hb.out);obtain⟨bb,oo,rfl⟩:=HEr.out.some (by omega);obtain⟨bd,od,rfl⟩:=HFr.out.some (by omega);obtain⟨x,m,e,hq⟩:=HEr.out.fix hkn;obtain⟨y,m',e',hp⟩:=HFr.out.fix hkn;have Hq:=hid hq;have Hp:=hid hp;have hC:=hid (fun w' (h:Below wr.heap.size wr w')=>zw0 (ze v k) (ze u k) x y m e m' e' w' (hq w' h).2.2.2 (hp w' h).2.2.2)
      have Hst:=hid (show decide (ze v k=ze u k)=true→∀j,j<k+1→ze v j=ze u j from fun h j hj=>by
       by_cases e:j=k
       · rw[e];exact of_decide_eq_true h
       · exact ht.out j (by omega))
      have Hno:=hid (show decide (ze v k=ze u k)=false→v≠u from fun h h2=>by rw[h2] at h;simp at h);have h0:(0:Int)≤k:=by omega
      have h04:(k:Int)<(n:Int):=by omega
      clear hq hp;generalize decide (ze v k=ze u k)=dd at*;generalize ze v k=f at*;generalize ze u k=g at*;obtain⟨fr,fm,fh⟩:=f;obtain⟨gr,gm,gh⟩:=g;simp only at Hq Hp;go_wp2_with fail;go_cut [26] (fun t wc=>t=.bool (!dd)∧Hid (Below wr.heap.size wr wc))
      case first=>
       refine za1 (by kernel_rfl) (by kernel_rfl) ?_
       repeat (go_big_quiet_step ((intro hw;first
        | rfl
        | (have q0:=Hq.out _ hw
           have q1:=q0.1;have q2:=q0.2.1;have q3:=q0.2.2.1;have p0:=Hp.out _ hw;have p1:=p0.1;have p2:=p0.2.1;have p3:=p0.2.2.1;clear q0 p0
           go_at_call 101;exact zcn hw (hC.out _ hw))
        | (have q0:=Hq.out _ hw
           have q1:=q0.1;have q2:=q0.2.1;have q3:=q0.2.2.1;have p0:=Hp.out _ hw;have p1:=p0.1;have p2:=p0.2.1;have p3:=p0.2.2.1;clear q0 p0;go_simp;first | rfl | exact⟨rfl,hw⟩ | (trace_state;fail)))))
       refine wpQuiet_nil ?_;intro w3 hb3;go_wp2;go_meet
       exact⟨rfl,hb3⟩
      case rest=>
       obtain⟨rfl,hb2⟩:=hcut;have Hb2:=hid (Hb.out.trans (hb2.out.mono Hb.out.size));clear hb2
       cases dd with
       | true=>
        have Hs:=hid (Hst.out rfl);rw[Bool.not_true];go_wp2;go_roundw
        case rel=>exact⟨k+1,by omega,by go_num,Hb2.out,Hs.out⟩
        case measure=>simp[intOf];omega
       | false=>
        have Hs:=hid (show decide (v=u)=false from by rw[decide_eq_false_iff_not];exact Hno.out rfl);rw[Bool.not_false];go_wp2;go_ret;exact⟨by rw[Hs.out];rfl,Hb2.out⟩
    · obtain rfl:k=n:=by omega
      have Hs:=hid (show decide (v=u)=true from by
       rw[decide_eq_true_iff];refine List.ext_getElem (by rw[Hl.out,Hl'.out]) fun i h1 h2=>?_
       have:=ht.out i (by rw[←Hl.out];exact h1);rwa [ja h1,ja h2] at this)
      go_wp2;go_ret;exact⟨by rw[Hs.out];rfl,Hb.out⟩
 · have hz:((n:Int) != (n':Int))=true:=by rw[bne_iff_ne];omega
   have Hs:=hid (show decide (v=u)=false from by
    rw[decide_eq_false_iff_not];intro h;apply hne;rw[←Hl.out,←Hl'.out,h])
   clear hne;go_enter Tryz.func60,Tryz.ntmps60;go_wp2;go_ret;exact⟨by rw[Hs.out];rfl,Below.refl _ _⟩
theorem zw4 (v:Vec) (r:Nat):yb v r=match zfy v r with | some i=>jo (ze v i) | none=>[]:=by
 cases h:zfy v r with
 | none=>
  have hn:=zw2 h;unfold yb
  rw[List.find?_eq_none.2 (fun e he=>by simpa using hn e he)]
 | some i=>
  obtain⟨k,hk,hf,hs⟩:=zfn h
  have hi:i=k∧(ze v k).1=r:=by
   split at hs
   · rename_i h2;cases hs;exact⟨rfl,h2⟩
   · cases hs
  obtain⟨rfl,hr⟩:=hi;unfold yb
  have:v.find? (fun e=>decide (e.1=r))=some (ze v i):=by
   rw[List.find?_eq_some_iff_getElem];refine⟨by simpa using hr,i,hk,(ja hk).symm,fun j hj=>?_⟩;have h3:=hf j hj;split at h3
   · cases h3
   · rename_i h4;rw[ja (by omega)] at h4;simpa using h4
  rw[this]
theorem zoq {v:Vec} (hl:LtV v) (hF:VecFits v) (r:Nat):(yb v r).length≤501:=by
 rw[zw4]
 cases h:zfy v r with
 | none=>simp
 | some i=>
  obtain⟨hi,-⟩:=zw1 h;have h1:=hF.holes _ (kn hi);have h2:=hl _ (kn hi);have:=zn4 h2.holes h2.max;simp only;omega
theorem zor {B g:Nat} {w W:World} {x y z:Value} (h:Below B w W) (hg:B≤g):Below B w (((W.setCell ⟨g,0,none⟩ x).setCell ⟨g,1,none⟩ y).setCell ⟨g,2,none⟩ z):=
 ((h.setCell hg _).setCell hg _).setCell hg _
theorem zhm {w':World} {g:Nat} {x y z:Value} {T:TypeId} (hr:w'.heap[g]?=some (.cells #[x,y,z] T)):
 w'.cell? ⟨g,0,none⟩=some x∧w'.cell? ⟨g,1,none⟩=some y∧w'.cell? ⟨g,2,none⟩=some z∧w'.frozen? ⟨g,0,none⟩=false∧w'.frozen? ⟨g,1,none⟩=false∧w'.frozen? ⟨g,2,none⟩=false:=
 ⟨zx (i:=0) hr rfl,zx (i:=1) hr rfl,zx (i:=2) hr rfl,by simp[World.frozen?,hr],by simp[World.frozen?,hr],by simp[World.frozen?,hr]⟩
