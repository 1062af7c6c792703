/- Walks and laws, joined: Wb16. -/
import Derived.Test.YtdnjfnofjaoajaaGreatDoorWb10
set_option linter.unusedVariables false
set_option maxHeartbeats 16000000
namespace Go.Proofs.YtdnjfnofjaoajaaGreatDoor
open Lib (hid)
section
open Go.RowKit Go.Shelf
attribute [local go_sem] Oper.semAt_some
theorem zog (x y:Option Addr) (n m c d:Nat) (w:World):
 Calls Tryz.prog 231 #[.slice x n c,.slice y m d] w fun e w'=>e=.returned (.func (.func 259) #[] #[.pointer (some ⟨w.heap.size,0,none⟩),.pointer (some ⟨w.heap.size+1,0,none⟩)])∧
  w'=(w.alloc (.cells #[.slice x n c] 81)).alloc (.cells #[.slice y m d] 81):=by
 go_enter Tryz.func231,Tryz.ntmps231;go_wp2;go_ret;exact⟨rfl,rfl⟩
def pcE (p:Pc):Array Value:= #[ivV p.1,.agg #[.bool p.2.1,.bool p.2.2]]
def zt3:Value→Nat
 | .slice _ n _=>n
 | _=>0
def zk9 (W:World) (b:Nat):Nat:=match W.heap[b]? with | some (.cells C _ _)=>zt3 (C.getD 0 (.bool false)) | _=>0
def BoxI (w0 W:World) (b:Nat) (l:List Iv):Prop:=∃a n c,W.heap[b]?=some (.cells #[.slice a n c] 81)∧Ivs w0 a n c l
theorem zcj {W:World} {b:Nat} {v u:Value} {t:TypeId} (h:W.heap[b]?=some (.cells #[v] t)):(W.setCell ⟨b,0,none⟩ u).heap[b]?=some (.cells #[u] t):=by
 simp[World.setCell,Array.getElem?_modify,h]
theorem y7 {W:World} {b:Nat} {v:Value} {t:TypeId} (h:W.heap[b]?=some (.cells #[v] t)):W.cell? ⟨b,0,none⟩=some v:=by simp[World.cell?,h]
theorem zam {W:World} {b:Nat} {v:Value} {t:TypeId} (h:W.heap[b]?=some (.cells #[v] t)):W.frozen? ⟨b,0,none⟩=false:=by simp[World.frozen?,h]
theorem zla {w0 W:World} {b:Nat} {l:List Iv} (h:BoxI w0 W b l):zk9 W b=l.length:=by
 obtain⟨a,n,c,h1,h2⟩:=h;simp[zk9,zt3,h1,h2.len]
theorem BoxI.kept {w0 W W':World} {b:Nat} {l:List Iv} (h:BoxI w0 W b l) (hk:W'.heap[b]?=W.heap[b]?):BoxI w0 W' b l:=by
 obtain⟨a,n,c,h1,h2⟩:=h;exact⟨a,n,c,hk.trans h1,h2⟩
theorem zt4 {w:World} {blk o k cap:Nat} {s:Iv} {c:List Iv} (h:Ivs w (some ⟨blk,o,none⟩) k cap (s :: c)):
 Ivs w (if cap=1 then some ⟨blk,o,none⟩ else some ⟨blk,o+2,none⟩) (k - 1) (cap - 1) c:=by
 have hl:c.length+1=k:=h.len;have hr:=h.room;have hm:=h.most;refine⟨by omega,fun t ht=>h.lt t (List.mem_cons_of_mem _ ht),by omega,by omega,?_,fun hn=>?_⟩
 · intro e;split at e <;> cases e
 · rw[if_neg (by omega)];obtain⟨b,o',e,hc⟩:=h.cells (by omega);cases e;refine⟨blk,o+2,rfl,fun i hi=>?_⟩;have:=hc (i+1) (by omega);have e1:o+(i+1)*2=o+2+i*2:=by omega
   rw[e1] at this;simpa [zb] using this
set_option maxRecDepth 20000 in
theorem zoh (n:Nat) (w0 w:World) (ba bb:Nat) (a b:List Iv) (ga:Good a) (gb:Good b) (hb0:Below w0.heap.size w0 w)
 (hsa:BoxI w0 w ba a) (hsb:BoxI w0 w bb b) (hba:w0.heap.size≤ba) (hbb:w0.heap.size≤bb) (hne:ba≠bb):
 zms n Tryz.prog 259 #[.pointer (some ⟨ba,0,none⟩),.pointer (some ⟨bb,0,none⟩)] pcE (fun ps=>∃y,Chn a b 0 ps y) (fun ps=>Chn a b 0 ps 18446744073709551616)
  (fun k=>k=ba∨k=bb) (fun k=>k<w0.heap.size∨k=ba∨k=bb) w:=by
 intro l J Jx W hl hW hJ hJx hY h0;have hbas:ba<w.heap.size:=by obtain⟨x,k,c,h,_⟩:=hsa;exact(Array.getElem?_eq_some_iff.1 h).1
 have hbbs:bb<w.heap.size:=by obtain⟨x,k,c,h,_⟩:=hsb;exact(Array.getElem?_eq_some_iff.1 h).1
 have Hla:=hid (show zq a from by obtain⟨x,k,c,_,h⟩:=hsa;exact h.lt);have Hlb:=hid (show zq b from by obtain⟨x,k,c,_,h⟩:=hsb;exact h.lt);have Ha:=hid (hsa.kept (hW.block ba hbas));have Hb:=hid (hsb.kept (hW.block bb hbbs));have H0:=hid (hb0.trans (hW.mono hb0.size));have HJ:=hid hJ;have HJx:=hid hJx;have HY:=hid hY;have Hj0:=hid h0;have Hne:=hid hne;have Hba:=hid hba;have Hbb:=hid hbb;have Hga:=hid ga;have Hgb:=hid gb;clear hsa hsb hW hb0 hJ hJx hY h0 hne hba hbb hbas hbbs ga gb hl;refine callsIn_of_wp Tryz.func259 rfl trivial ?_ rfl;simp only[Tryz.ntmps259,List.size_toArray,List.length_cons,List.length_nil,Nat.reduceAdd,Nat.reduceSub,Array.replicate_succ,Array.replicate_zero,List.push_toArray,List.append_toArray,List.nil_append,List.cons_append]
 gi_wp2
 gi_loopw [4] (fun f wr=>∃(x:Nat) (pre:List Pc),f=.int .u64 x∧x<18446744073709551616∧Hid (x∈qd [a,b]∧Chn a b 0 pre x∧Below w0.heap.size w0 wr∧J pre wr)∧Hid (∃u,u≤x∧BoxI w0 wr ba (zy a u))∧Hid (∃u,u≤x∧BoxI w0 wr bb (zy b u)))
  (fun f _=>18446744073709551616 - (intOf f).toNat)
 case atStart=>exact⟨0,[],rfl,by omega,⟨by simp[qd],rfl,H0.out,Hj0.out⟩,⟨0,Nat.le_refl _,by rw[zq4];exact Ha.out⟩,⟨0,Nat.le_refl _,by rw[zq4];exact Hb.out⟩⟩
 case round=>
  obtain⟨x,pre,rfl,hx,hm,hA,hB⟩:=hrel;refine wpIn_wide.2 ?_;go_upto_block 2 with fail
  go_cut [] (fun wr=>Below w0.heap.size w0 wr∧Hid (J pre wr)∧Hid (BoxI w0 wr ba (zy a x))∧Hid (∃u,u≤x∧BoxI w0 wr bb (zy b u)))
  case first=>
   obtain⟨wx,rfl⟩:∃wx:World,wx=wr:=⟨_,rfl⟩;go_wp2_with fail;go_loopw [] (fun wr=>Below w0.heap.size w0 wr∧Hid (J pre wr)∧Hid (∃c,zy c x=zy a x∧BoxI w0 wr ba c)∧Hid (∃u,u≤x∧BoxI w0 wr bb (zy b u))) (fun wr=>zk9 wr ba)
   case atStart=>
    obtain⟨u,hu,hA⟩:=hA.out;exact⟨hm.out.2.2.1,hm.out.2.2.2,⟨_,zm3 hu,hA⟩,hB⟩
   case round=>
    obtain⟨hb,hj,hc,hB⟩:=hrel;obtain⟨c,hd,ad,k,cap,hbx,hI⟩:=hc.out;have HB:=hid hb;clear hb hc;have Hbx:=hid hbx;have HI:=hid hI;have Hd:=hid hd;have q1:=y7 hbx;have q2:=zam hbx;clear hbx hI hd
    cases c with
    | nil=>
     obtain rfl:k=0:=by have:=HI.out.len;simpa using this.symm
     have Hz:=hid (show BoxI w0 wr ba (zy a x) from by rw[←Hd.out];exact⟨_,_,_,Hbx.out,HI.out⟩);go_wp2;go_meet
     exact⟨HB.out,hj,Hz,hB⟩
    | cons s c=>
     obtain⟨blk,o,rfl,hcell⟩:=HI.out.cells (by have:=HI.out.len;simp at this;omega);obtain⟨c1,c2⟩:=hcell 0 (by have:=HI.out.len;simp at this;omega);have hk0:0<k:=by have:=HI.out.len;simp at this;omega
     have c2:=(HB.out.cell (p:=⟨blk,o+0*2+1,none⟩) (ze c2)).trans c2;clear hcell c1;obtain⟨p,q⟩:=s;simp only[zb,List.getD_cons_zero,Nat.zero_mul,Nat.add_zero] at c2;have hkc:k≤cap:=HI.out.room;have hk1:decide ((0:Int)<(k:Int))=true:=by rw[decide_eq_true_iff];omega
     have hk2:decide (0<k)=true:=by rw[decide_eq_true_iff];omega
     by_cases hq:q<x
     · have hd1:decide ((q:Int)<(x:Int))=true:=by rw[decide_eq_true_iff];omega
       have hd2:decide (q<x)=true:=by rw[decide_eq_true_iff];omega
       have Ht:=hid (zt4 HI.out);have Hdt:=hid (show zy c x=zy a x from by rw[←Hd.out,zy,if_pos hq]);clear hq;go_wp2;have hk:=(Kept.refl (fun k=>¬(k=ba∨k=bb)) wr).setCell (a:=⟨ba,0,none⟩) (fun _ e=>e (.inl rfl)) (.slice (if cap=1 then some ⟨blk,o,none⟩ else some ⟨blk,o+2,none⟩) (k - 1) (cap - 1));have hbn:BoxI w0 (wr.setCell ⟨ba,0,none⟩ (.slice (if cap=1 then some ⟨blk,o,none⟩ else some ⟨blk,o+2,none⟩) (k - 1) (cap - 1))) ba c:=⟨_,_,_,zcj Hbx.out,Ht.out⟩;go_roundw
       case rel=>
        refine⟨HB.out.setCell Hba.out _,HJ.out _ _ _ hj.out hk,⟨c,Hdt.out,hbn⟩,?_⟩;obtain⟨u,hu,hB⟩:=hB.out;exact⟨u,hu,hB.kept (Below.heap_setCell _ _ _ _ (fun e=>Hne.out e.symm))⟩
       case measure=>rw[zla hbn,zla ⟨_,_,_,Hbx.out,HI.out⟩];simp
     · have hd1:decide ((q:Int)<(x:Int))=false:=by rw[decide_eq_false_iff_not];omega
       have hd2:decide (q<x)=false:=by rw[decide_eq_false_iff_not];omega
       have Hz:=hid (show BoxI w0 wr ba (zy a x) from by rw[←Hd.out,zy,if_neg hq];exact⟨_,_,_,Hbx.out,HI.out⟩);clear hq;go_wp2;go_meet
       exact⟨HB.out,hj,Hz,hB⟩
  case rest=>
   obtain⟨hb,hj,hA,hB⟩:=hcut;have hm2:=hid (And.intro hm.out.1 hm.out.2.1);clear hm;go_upto_block 4 with fail
   go_cut [] (fun wr=>Below w0.heap.size w0 wr∧Hid (J pre wr)∧Hid (BoxI w0 wr ba (zy a x))∧Hid (BoxI w0 wr bb (zy b x)))
   case first=>
    obtain⟨wx,rfl⟩:∃wx:World,wx=wc:=⟨_,rfl⟩;go_wp2_with fail;go_loopw [] (fun wr=>Below w0.heap.size w0 wr∧Hid (J pre wr)∧Hid (∃c,zy c x=zy b x∧BoxI w0 wr bb c)∧Hid (BoxI w0 wr ba (zy a x))) (fun wr=>zk9 wr bb)
    case atStart=>
     obtain⟨u,hu,hB⟩:=hB.out;exact⟨hb,hj,⟨_,zm3 hu,hB⟩,hA⟩
    case round=>
     obtain⟨hb,hj,hc,hA⟩:=hrel;obtain⟨c,hd,ad,k,cap,hbx,hI⟩:=hc.out;have HB:=hid hb;clear hb hc;have Hbx:=hid hbx;have HI:=hid hI;have Hd:=hid hd;have q1:=y7 hbx;have q2:=zam hbx;clear hbx hI hd
     cases c with
     | nil=>
      obtain rfl:k=0:=by have:=HI.out.len;simpa using this.symm
      have Hz:=hid (show BoxI w0 wr bb (zy b x) from by rw[←Hd.out];exact⟨_,_,_,Hbx.out,HI.out⟩);go_wp2;go_meet
      exact⟨HB.out,hj,hA,Hz⟩
     | cons s c=>
      obtain⟨blk,o,rfl,hcell⟩:=HI.out.cells (by have:=HI.out.len;simp at this;omega);obtain⟨c1,c2⟩:=hcell 0 (by have:=HI.out.len;simp at this;omega);have hk0:0<k:=by have:=HI.out.len;simp at this;omega
      have c2:=(HB.out.cell (p:=⟨blk,o+0*2+1,none⟩) (ze c2)).trans c2;clear hcell c1;obtain⟨p,q⟩:=s;simp only[zb,List.getD_cons_zero,Nat.zero_mul,Nat.add_zero] at c2;have hkc:k≤cap:=HI.out.room;have hk1:decide ((0:Int)<(k:Int))=true:=by rw[decide_eq_true_iff];omega
      have hk2:decide (0<k)=true:=by rw[decide_eq_true_iff];omega
      by_cases hq:q<x
      · have hd1:decide ((q:Int)<(x:Int))=true:=by rw[decide_eq_true_iff];omega
        have hd2:decide (q<x)=true:=by rw[decide_eq_true_iff];omega
        have Ht:=hid (zt4 HI.out);have Hdt:=hid (show zy c x=zy b x from by rw[←Hd.out,zy,if_pos hq]);clear hq;go_wp2;have hk:=(Kept.refl (fun k=>¬(k=ba∨k=bb)) wr).setCell (a:=⟨bb,0,none⟩) (fun _ e=>e (.inr rfl)) (.slice (if cap=1 then some ⟨blk,o,none⟩ else some ⟨blk,o+2,none⟩) (k - 1) (cap - 1));have hbn:BoxI w0 (wr.setCell ⟨bb,0,none⟩ (.slice (if cap=1 then some ⟨blk,o,none⟩ else some ⟨blk,o+2,none⟩) (k - 1) (cap - 1))) bb c:=⟨_,_,_,zcj Hbx.out,Ht.out⟩;go_roundw
        case rel=>
         exact⟨HB.out.setCell Hbb.out _,HJ.out _ _ _ hj.out hk,⟨c,Hdt.out,hbn⟩,hA.out.kept (Below.heap_setCell _ _ _ _ (fun e=>Hne.out e))⟩
        case measure=>rw[zla hbn,zla ⟨_,_,_,Hbx.out,HI.out⟩];simp
      · have hd1:decide ((q:Int)<(x:Int))=false:=by rw[decide_eq_false_iff_not];omega
        have hd2:decide (q<x)=false:=by rw[decide_eq_false_iff_not];omega
        have Hz:=hid (show BoxI w0 wr bb (zy b x) from by rw[←Hd.out,zy,if_neg hq];exact⟨_,_,_,Hbx.out,HI.out⟩);clear hq;go_wp2;go_meet
        exact⟨HB.out,hj,hA,Hz⟩
   case rest=>
    obtain⟨wx,rfl⟩:∃wx:World,wx=wc:=⟨_,rfl⟩;obtain⟨hb,hj,hA,hB⟩:=hcut;go_upto_region 5 with fail
    go_cut [5] (fun v wr=>∃r,v=.pointer (some ⟨r,0,none⟩)∧wx.heap.size≤r∧Hid (wr.heap[r]?=some (.cells #[.bool (mem a x),.bool (mem b x)] 273))∧Hid (Below wx.heap.size wx wr))
    case first=>
     have Hma:=hid (zq6 (x:=x) Hga.out);have Hmb:=hid (zq6 (x:=x) Hgb.out);obtain⟨aa,ka,ca,ha1,ha2⟩:=hA.out;obtain⟨ab,kb,cb,hb1,hb2⟩:=hB.out;have q1:=y7 ha1;have q2:=y7 hb1;have hal:=(Below.refl wx.heap.size wx).alloc (Nat.le_refl _) (.cells #[.bool false,.bool false] 273);have q3:=(hal.cell (ze q1)).trans q1;have q4:=(hal.cell (ze q2)).trans q2;clear ha1 hb1 hA hB;have HIa:=hid ha2;have HIb:=hid hb2;clear ha2 hb2;have Hb:=hid hb;clear hb;generalize zy a x=A at*;generalize zy b x=B at*
     cases A with
     | nil=>
      obtain rfl:ka=0:=by have:=HIa.out.len;simpa using this.symm
      cases B with
      | nil=>
       obtain rfl:kb=0:=by have:=HIb.out.len;simpa using this.symm
       go_region
       all_goals go_wp2
       all_goals go_meet
       all_goals exact⟨_,rfl,Nat.le_refl _,(by rw[←Hma.out,←Hmb.out];exact World.alloc_heap_new wx _),((Below.refl _ _).alloc (Nat.le_refl _) _).drew⟩
      | cons t B=>
       obtain⟨blky,oy,rfl,hcelly⟩:=HIb.out.cells (by have:=HIb.out.len;simp at this;omega);obtain⟨cy,-⟩:=hcelly 0 (by have:=HIb.out.len;simp at this;omega);have h0y:0<kb:=by have:=HIb.out.len;simp at this;omega
       have cy:=(Hb.out.cell (p:=⟨blky,oy+0*2,none⟩) (ze cy)).trans cy;clear hcelly;obtain⟨py,qy⟩:=t;simp only[zb,List.getD_cons_zero,Nat.zero_mul,Nat.add_zero] at cy;have ry:=(hal.cell (ze cy)).trans cy;have hk1y:decide ((0:Int)<(kb:Int))=true:=by rw[decide_eq_true_iff];omega
       have hk2y:decide (0<kb)=true:=by rw[decide_eq_true_iff];omega
       have hley:(1:Int)≤kb:=by omega
       obtain⟨uy,huy⟩:∃uy,uy=decide (py≤x):=⟨_,rfl⟩;have hd1y:decide ((py:Int)≤(x:Int))=uy:=by rw[huy];exact decide_eq_decide.2 (by omega)
       have hd2y:decide (py≤x)=uy:=huy.symm;have HUy:=hid (show zj6 ((py,qy) :: B) x=uy from hd2y);clear huy;go_region
       all_goals go_wp2
       all_goals go_meet
       all_goals exact⟨_,rfl,Nat.le_refl _,(by rw[←Hma.out,←Hmb.out];rw[HUy.out];exact World.alloc_heap_new wx _),((Below.refl _ _).alloc (Nat.le_refl _) _).drew⟩
     | cons s A=>
      obtain⟨blkx,ox,rfl,hcellx⟩:=HIa.out.cells (by have:=HIa.out.len;simp at this;omega);obtain⟨cx,-⟩:=hcellx 0 (by have:=HIa.out.len;simp at this;omega);have h0x:0<ka:=by have:=HIa.out.len;simp at this;omega
      have cx:=(Hb.out.cell (p:=⟨blkx,ox+0*2,none⟩) (ze cx)).trans cx;clear hcellx;obtain⟨px,qx⟩:=s;simp only[zb,List.getD_cons_zero,Nat.zero_mul,Nat.add_zero] at cx;have rx:=(hal.cell (ze cx)).trans cx;have hk1x:decide ((0:Int)<(ka:Int))=true:=by rw[decide_eq_true_iff];omega
      have hk2x:decide (0<ka)=true:=by rw[decide_eq_true_iff];omega
      have hlex:(1:Int)≤ka:=by omega
      obtain⟨ux,hux⟩:∃ux,ux=decide (px≤x):=⟨_,rfl⟩;have hd1x:decide ((px:Int)≤(x:Int))=ux:=by rw[hux];exact decide_eq_decide.2 (by omega)
      have hd2x:decide (px≤x)=ux:=hux.symm;have HUx:=hid (show zj6 ((px,qx) :: A) x=ux from hd2x);clear hux
      cases B with
      | nil=>
       obtain rfl:kb=0:=by have:=HIb.out.len;simpa using this.symm
       go_region
       all_goals go_wp2
       all_goals go_meet
       all_goals exact⟨_,rfl,Nat.le_refl _,(by rw[←Hma.out,←Hmb.out];rw[HUx.out];exact World.alloc_heap_new wx _),((Below.refl _ _).alloc (Nat.le_refl _) _).drew⟩
      | cons t B=>
       obtain⟨blky,oy,rfl,hcelly⟩:=HIb.out.cells (by have:=HIb.out.len;simp at this;omega);obtain⟨cy,-⟩:=hcelly 0 (by have:=HIb.out.len;simp at this;omega);have h0y:0<kb:=by have:=HIb.out.len;simp at this;omega
       have cy:=(Hb.out.cell (p:=⟨blky,oy+0*2,none⟩) (ze cy)).trans cy;clear hcelly;obtain⟨py,qy⟩:=t;simp only[zb,List.getD_cons_zero,Nat.zero_mul,Nat.add_zero] at cy;have ry:=(hal.cell (ze cy)).trans cy;have hk1y:decide ((0:Int)<(kb:Int))=true:=by rw[decide_eq_true_iff];omega
       have hk2y:decide (0<kb)=true:=by rw[decide_eq_true_iff];omega
       have hley:(1:Int)≤kb:=by omega
       obtain⟨uy,huy⟩:∃uy,uy=decide (py≤x):=⟨_,rfl⟩;have hd1y:decide ((py:Int)≤(x:Int))=uy:=by rw[huy];exact decide_eq_decide.2 (by omega)
       have hd2y:decide (py≤x)=uy:=huy.symm;have HUy:=hid (show zj6 ((py,qy) :: B) x=uy from hd2y);clear huy;go_region
       all_goals go_wp2
       all_goals go_meet
       all_goals exact⟨_,rfl,Nat.le_refl _,(by rw[←Hma.out,←Hmb.out];rw[HUx.out];rw[HUy.out];exact World.alloc_heap_new wx _),((Below.refl _ _).alloc (Nat.le_refl _) _).drew⟩
    case rest=>
     obtain⟨r,rfl,hr,hst,hbw⟩:=hcut;have Hj:=hid (HJ.out _ _ _ hj.out ((Kept.refl (fun k=>¬(k=ba∨k=bb)) wx).below hbw.out));have HA:=hid (hA.out.kept (hbw.out.block ba (Array.getElem?_eq_some_iff.1 hA.out.choose_spec.choose_spec.choose_spec.1).1));have HB:=hid (hB.out.kept (hbw.out.block bb (Array.getElem?_eq_some_iff.1 hB.out.choose_spec.choose_spec.choose_spec.1).1));have H0c:=hid (hb.trans (hbw.out.mono hb.size));have Hst:=hst;clear hj hA hB hb hbw hst hr;obtain⟨aa,ka,ca,ha1,ha2⟩:=HA.out;obtain⟨ab,kb,cb,hb1,hb2⟩:=HB.out;have q1:=y7 ha1;have q2:=y7 hb1;clear ha1 hb1;have HIa:=hid (ha2.below H0c.out);have HIb:=hid hb2;clear ha2 hb2;have Hpc:=hid (zq9 Hla.out Hlb.out Hga.out Hgb.out hm2.out.2 hx hm2.out.1);have HnT:=hid (fun y=>(zq9 Hla.out Hlb.out Hga.out Hgb.out hm2.out.2 hx hm2.out.1).2 y);have hw01:IntKind.u64.wrap ((0:Int) - 1)=18446744073709551615:=by rw[IntKind.wrap_u64];rfl
     have Hna:=hid (fun w=>zr8 aa ka ca x (zy a x) w);have Hnb:=hid (fun w=>zr8 ab kb cb x (zy b x) w);have HdT:=hid (show ∀o,zb0 (zy a x) (zy b x) x=o→zeu a b x=((x,match o with | some y=>y - 1 | none=>18446744073709551615),(mem a x,mem b x)) from fun o h=>by subst h;rfl);have HuT:=hid (show zb0 (zy a x) (zy b x) x=(match jp (zy a x) x,jp (zy b x) x with | none,v=>v | some u,none=>some u | some u,some v=>if v<u then some v else some u) from rfl);generalize jp (zy a x) x=na at*;generalize jp (zy b x) x=nb at*
     cases na with
     | none=>
      cases nb with
      | none=>
       have Hsel:=hid (show zb0 (zy a x) (zy b x) x=none from HuT.out);clear HuT;go_wp2_with fail;refine(Hna.out _ HIa.out hx).mono ?_;rintro e w3 ⟨rfl,hb3⟩;have Hb3:=hid hb3;clear hb3;have q2:=(Hb3.out.cell (ze q2)).trans q2;simp only[zbh,Option.getD,Option.isSome];go_wp2_with fail;refine(Hnb.out _ (HIb.out.below (H0c.out.trans (Hb3.out.mono H0c.out.size))) hx).mono ?_;rintro e w4 ⟨rfl,hb4⟩;have Hb4:=hid (Hb3.out.trans (hb4.mono Hb3.out.size));clear hb4 Hb3;simp only[zbh,Option.getD,Option.isSome]
       have z0:w4.cell? ⟨r,0,none⟩=some (.bool (mem a x)):=by
        have h:=Hst.out;refine(Hb4.out.cell (p:=⟨r,0,none⟩) (Array.getElem?_eq_some_iff.1 h).1).trans ?_;simp[World.cell?,h]
       have z1:w4.cell? ⟨r,1,none⟩=some (.bool (mem b x)):=by
        have h:=Hst.out;refine(Hb4.out.cell (p:=⟨r,1,none⟩) (Array.getElem?_eq_some_iff.1 h).1).trans ?_;simp[World.cell?,h]
       have HJ4:=hid (HJ.out _ _ _ Hj.out ((Kept.refl (fun k=>¬(k=ba∨k=bb)) wc).below Hb4.out));have HA4:=hid (HA.out.kept (Hb4.out.block ba (Array.getElem?_eq_some_iff.1 HA.out.choose_spec.choose_spec.choose_spec.1).1));have HB4:=hid (HB.out.kept (Hb4.out.block bb (Array.getElem?_eq_some_iff.1 HB.out.choose_spec.choose_spec.choose_spec.1).1));have H04:=hid (H0c.out.trans (Hb4.out.mono H0c.out.size));clear q1 q2 Hb4;have Hp:=hid (HdT.out _ Hsel.out);have HC:=hid (show Chn a b 0 (pre++[((x,18446744073709551615),(mem a x,mem b x))]) 18446744073709551616 from by have h:=Hpc.out.1;rw[Hp.out] at h;exact h);obtain⟨fn,tmps,assign,body,hy,hR⟩:=HY.out pre ((x,18446744073709551615),(mem a x,mem b x)) w4 ⟨_,HC.out⟩ HJ4.out;simp only[pcE,ivV] at hy
       try rw[show ((18446744073709551615:Nat):Int)=18446744073709551615 from rfl] at hy
       go_upto_region 13 with fail
       refine(wpIn_wide (n:=n)).1 ?_
       gi_wp2
       first | refine hR.mono ?_ | refine⟨fun h=>(by cases h),hR.mono ?_⟩
       rintro e W3 (⟨rfl,hJ3,hk3⟩ | ⟨rfl,hJx3⟩)
       · gi_wp2
         go_wp2;refine bodyPost_ret (results_none rfl _ _ _) rfl ?_;exact⟨⟨_,rfl⟩,.inl ⟨_,HC.out,hJ3⟩⟩
       · gi_wp2
         go_wp2;refine bodyPost_ret (results_none rfl _ _ _) rfl ?_
         exact⟨⟨_,rfl⟩,.inr ⟨_,⟨_,HC.out⟩,hJx3⟩⟩
      | some v=>
       have Hsel:=hid (show zb0 (zy a x) (zy b x) x=some v from HuT.out);clear HuT;go_wp2_with fail;refine(Hna.out _ HIa.out hx).mono ?_;rintro e w3 ⟨rfl,hb3⟩;have Hb3:=hid hb3;clear hb3;have q2:=(Hb3.out.cell (ze q2)).trans q2;simp only[zbh,Option.getD,Option.isSome];go_wp2_with fail;refine(Hnb.out _ (HIb.out.below (H0c.out.trans (Hb3.out.mono H0c.out.size))) hx).mono ?_;rintro e w4 ⟨rfl,hb4⟩;have Hb4:=hid (Hb3.out.trans (hb4.mono Hb3.out.size));clear hb4 Hb3;simp only[zbh,Option.getD,Option.isSome]
       have z0:w4.cell? ⟨r,0,none⟩=some (.bool (mem a x)):=by
        have h:=Hst.out;refine(Hb4.out.cell (p:=⟨r,0,none⟩) (Array.getElem?_eq_some_iff.1 h).1).trans ?_;simp[World.cell?,h]
       have z1:w4.cell? ⟨r,1,none⟩=some (.bool (mem b x)):=by
        have h:=Hst.out;refine(Hb4.out.cell (p:=⟨r,1,none⟩) (Array.getElem?_eq_some_iff.1 h).1).trans ?_;simp[World.cell?,h]
       have HJ4:=hid (HJ.out _ _ _ Hj.out ((Kept.refl (fun k=>¬(k=ba∨k=bb)) wc).below Hb4.out));have HA4:=hid (HA.out.kept (Hb4.out.block ba (Array.getElem?_eq_some_iff.1 HA.out.choose_spec.choose_spec.choose_spec.1).1));have HB4:=hid (HB.out.kept (Hb4.out.block bb (Array.getElem?_eq_some_iff.1 HB.out.choose_spec.choose_spec.choose_spec.1).1));have H04:=hid (H0c.out.trans (Hb4.out.mono H0c.out.size));clear q1 q2 Hb4;obtain⟨hy1,hy2,hy3,hy4⟩:=HnT.out v Hsel.out;have Hp:=hid (HdT.out _ Hsel.out);have HC:=hid (show Chn a b 0 (pre++[((x,v - 1),(mem a x,mem b x))]) v from by have h:=Hpc.out.1;rw[Hp.out] at h;simpa [show v - 1+1=v by omega] using h);have hw1:IntKind.u64.wrap ((v:Int) - 1)=((v - 1:Nat):Int):=by rw[IntKind.wrap_u64];omega
       obtain⟨fn,tmps,assign,body,hy,hR⟩:=HY.out pre ((x,v - 1),(mem a x,mem b x)) w4 ⟨_,HC.out⟩ HJ4.out;simp only[pcE,ivV] at hy
       try rw[show ((18446744073709551615:Nat):Int)=18446744073709551615 from rfl] at hy
       go_upto_region 13 with fail
       refine(wpIn_wide (n:=n)).1 ?_
       gi_wp2
       first | refine hR.mono ?_ | refine⟨fun h=>(by cases h),hR.mono ?_⟩
       rintro e W3 (⟨rfl,hJ3,hk3⟩ | ⟨rfl,hJx3⟩)
       · gi_wp2
         go_wp2;go_roundw
         case rel=>
          have e3:=hk3.toBelow (n:=w0.heap.size) (fun k hk=>.inl hk) H04.out.size;exact⟨v,_,rfl,hy2,⟨hy4,HC.out,H04.out.trans e3,hJ3⟩,⟨x,Nat.le_of_lt hy1,HA4.out.kept (hk3.row ba (Array.getElem?_eq_some_iff.1 HA4.out.choose_spec.choose_spec.choose_spec.1).1 (.inr (.inl rfl)))⟩,⟨x,Nat.le_of_lt hy1,HB4.out.kept (hk3.row bb (Array.getElem?_eq_some_iff.1 HB4.out.choose_spec.choose_spec.choose_spec.1).1 (.inr (.inr rfl)))⟩⟩
         case measure=>simp[intOf];omega
       · gi_wp2
         go_wp2;refine bodyPost_ret (results_none rfl _ _ _) rfl ?_
         exact⟨⟨_,rfl⟩,.inr ⟨_,⟨_,HC.out⟩,hJx3⟩⟩
     | some u=>
      cases nb with
      | none=>
       have Hsel:=hid (show zb0 (zy a x) (zy b x) x=some u from HuT.out);clear HuT;go_wp2_with fail;refine(Hna.out _ HIa.out hx).mono ?_;rintro e w3 ⟨rfl,hb3⟩;have Hb3:=hid hb3;clear hb3;have q2:=(Hb3.out.cell (ze q2)).trans q2;simp only[zbh,Option.getD,Option.isSome];go_wp2_with fail;refine(Hnb.out _ (HIb.out.below (H0c.out.trans (Hb3.out.mono H0c.out.size))) hx).mono ?_;rintro e w4 ⟨rfl,hb4⟩;have Hb4:=hid (Hb3.out.trans (hb4.mono Hb3.out.size));clear hb4 Hb3;simp only[zbh,Option.getD,Option.isSome]
       have z0:w4.cell? ⟨r,0,none⟩=some (.bool (mem a x)):=by
        have h:=Hst.out;refine(Hb4.out.cell (p:=⟨r,0,none⟩) (Array.getElem?_eq_some_iff.1 h).1).trans ?_;simp[World.cell?,h]
       have z1:w4.cell? ⟨r,1,none⟩=some (.bool (mem b x)):=by
        have h:=Hst.out;refine(Hb4.out.cell (p:=⟨r,1,none⟩) (Array.getElem?_eq_some_iff.1 h).1).trans ?_;simp[World.cell?,h]
       have HJ4:=hid (HJ.out _ _ _ Hj.out ((Kept.refl (fun k=>¬(k=ba∨k=bb)) wc).below Hb4.out));have HA4:=hid (HA.out.kept (Hb4.out.block ba (Array.getElem?_eq_some_iff.1 HA.out.choose_spec.choose_spec.choose_spec.1).1));have HB4:=hid (HB.out.kept (Hb4.out.block bb (Array.getElem?_eq_some_iff.1 HB.out.choose_spec.choose_spec.choose_spec.1).1));have H04:=hid (H0c.out.trans (Hb4.out.mono H0c.out.size));clear q1 q2 Hb4;obtain⟨hy1,hy2,hy3,hy4⟩:=HnT.out u Hsel.out;have Hp:=hid (HdT.out _ Hsel.out);have HC:=hid (show Chn a b 0 (pre++[((x,u - 1),(mem a x,mem b x))]) u from by have h:=Hpc.out.1;rw[Hp.out] at h;simpa [show u - 1+1=u by omega] using h);have hw1:IntKind.u64.wrap ((u:Int) - 1)=((u - 1:Nat):Int):=by rw[IntKind.wrap_u64];omega
       obtain⟨fn,tmps,assign,body,hy,hR⟩:=HY.out pre ((x,u - 1),(mem a x,mem b x)) w4 ⟨_,HC.out⟩ HJ4.out;simp only[pcE,ivV] at hy
       try rw[show ((18446744073709551615:Nat):Int)=18446744073709551615 from rfl] at hy
       go_upto_region 13 with fail
       refine(wpIn_wide (n:=n)).1 ?_
       gi_wp2
       first | refine hR.mono ?_ | refine⟨fun h=>(by cases h),hR.mono ?_⟩
       rintro e W3 (⟨rfl,hJ3,hk3⟩ | ⟨rfl,hJx3⟩)
       · gi_wp2
         go_wp2;go_roundw
         case rel=>
          have e3:=hk3.toBelow (n:=w0.heap.size) (fun k hk=>.inl hk) H04.out.size;exact⟨u,_,rfl,hy2,⟨hy4,HC.out,H04.out.trans e3,hJ3⟩,⟨x,Nat.le_of_lt hy1,HA4.out.kept (hk3.row ba (Array.getElem?_eq_some_iff.1 HA4.out.choose_spec.choose_spec.choose_spec.1).1 (.inr (.inl rfl)))⟩,⟨x,Nat.le_of_lt hy1,HB4.out.kept (hk3.row bb (Array.getElem?_eq_some_iff.1 HB4.out.choose_spec.choose_spec.choose_spec.1).1 (.inr (.inr rfl)))⟩⟩
         case measure=>simp[intOf];omega
       · gi_wp2
         go_wp2;refine bodyPost_ret (results_none rfl _ _ _) rfl ?_
         exact⟨⟨_,rfl⟩,.inr ⟨_,⟨_,HC.out⟩,hJx3⟩⟩
      | some v=>
       by_cases hvu:v<u
       · have Hsel:=hid (show zb0 (zy a x) (zy b x) x=some v from HuT.out.trans (if_pos hvu));clear HuT;have hd1:decide ((v:Int)<(u:Int))=true:=by rw[decide_eq_true_iff];omega
         have hd2:decide (v<u)=true:=by rw[decide_eq_true_iff];omega
         go_wp2_with fail;refine(Hna.out _ HIa.out hx).mono ?_;rintro e w3 ⟨rfl,hb3⟩;have Hb3:=hid hb3;clear hb3;have q2:=(Hb3.out.cell (ze q2)).trans q2;simp only[zbh,Option.getD,Option.isSome];go_wp2_with fail;refine(Hnb.out _ (HIb.out.below (H0c.out.trans (Hb3.out.mono H0c.out.size))) hx).mono ?_;rintro e w4 ⟨rfl,hb4⟩;have Hb4:=hid (Hb3.out.trans (hb4.mono Hb3.out.size));clear hb4 Hb3;simp only[zbh,Option.getD,Option.isSome]
         have z0:w4.cell? ⟨r,0,none⟩=some (.bool (mem a x)):=by
          have h:=Hst.out;refine(Hb4.out.cell (p:=⟨r,0,none⟩) (Array.getElem?_eq_some_iff.1 h).1).trans ?_;simp[World.cell?,h]
         have z1:w4.cell? ⟨r,1,none⟩=some (.bool (mem b x)):=by
          have h:=Hst.out;refine(Hb4.out.cell (p:=⟨r,1,none⟩) (Array.getElem?_eq_some_iff.1 h).1).trans ?_;simp[World.cell?,h]
         have HJ4:=hid (HJ.out _ _ _ Hj.out ((Kept.refl (fun k=>¬(k=ba∨k=bb)) wc).below Hb4.out));have HA4:=hid (HA.out.kept (Hb4.out.block ba (Array.getElem?_eq_some_iff.1 HA.out.choose_spec.choose_spec.choose_spec.1).1));have HB4:=hid (HB.out.kept (Hb4.out.block bb (Array.getElem?_eq_some_iff.1 HB.out.choose_spec.choose_spec.choose_spec.1).1));have H04:=hid (H0c.out.trans (Hb4.out.mono H0c.out.size));clear q1 q2 Hb4;obtain⟨hy1,hy2,hy3,hy4⟩:=HnT.out v Hsel.out;have Hp:=hid (HdT.out _ Hsel.out);have HC:=hid (show Chn a b 0 (pre++[((x,v - 1),(mem a x,mem b x))]) v from by have h:=Hpc.out.1;rw[Hp.out] at h;simpa [show v - 1+1=v by omega] using h);have hw1:IntKind.u64.wrap ((v:Int) - 1)=((v - 1:Nat):Int):=by rw[IntKind.wrap_u64];omega
         obtain⟨fn,tmps,assign,body,hy,hR⟩:=HY.out pre ((x,v - 1),(mem a x,mem b x)) w4 ⟨_,HC.out⟩ HJ4.out;simp only[pcE,ivV] at hy
         try rw[show ((18446744073709551615:Nat):Int)=18446744073709551615 from rfl] at hy
         go_upto_region 13 with fail
         refine(wpIn_wide (n:=n)).1 ?_
         gi_wp2
         first | refine hR.mono ?_ | refine⟨fun h=>(by cases h),hR.mono ?_⟩
         rintro e W3 (⟨rfl,hJ3,hk3⟩ | ⟨rfl,hJx3⟩)
         · gi_wp2
           go_wp2;go_roundw
           case rel=>
            have e3:=hk3.toBelow (n:=w0.heap.size) (fun k hk=>.inl hk) H04.out.size;exact⟨v,_,rfl,hy2,⟨hy4,HC.out,H04.out.trans e3,hJ3⟩,⟨x,Nat.le_of_lt hy1,HA4.out.kept (hk3.row ba (Array.getElem?_eq_some_iff.1 HA4.out.choose_spec.choose_spec.choose_spec.1).1 (.inr (.inl rfl)))⟩,⟨x,Nat.le_of_lt hy1,HB4.out.kept (hk3.row bb (Array.getElem?_eq_some_iff.1 HB4.out.choose_spec.choose_spec.choose_spec.1).1 (.inr (.inr rfl)))⟩⟩
           case measure=>simp[intOf];omega
         · gi_wp2
           go_wp2;refine bodyPost_ret (results_none rfl _ _ _) rfl ?_;exact⟨⟨_,rfl⟩,.inr ⟨_,⟨_,HC.out⟩,hJx3⟩⟩
       · have Hsel:=hid (show zb0 (zy a x) (zy b x) x=some u from HuT.out.trans (if_neg hvu));clear HuT;have hd1:decide ((v:Int)<(u:Int))=false:=by rw[decide_eq_false_iff_not];omega
         have hd2:decide (v<u)=false:=by rw[decide_eq_false_iff_not];omega
         go_wp2_with fail;refine(Hna.out _ HIa.out hx).mono ?_;rintro e w3 ⟨rfl,hb3⟩;have Hb3:=hid hb3;clear hb3;have q2:=(Hb3.out.cell (ze q2)).trans q2;simp only[zbh,Option.getD,Option.isSome];go_wp2_with fail;refine(Hnb.out _ (HIb.out.below (H0c.out.trans (Hb3.out.mono H0c.out.size))) hx).mono ?_;rintro e w4 ⟨rfl,hb4⟩;have Hb4:=hid (Hb3.out.trans (hb4.mono Hb3.out.size));clear hb4 Hb3;simp only[zbh,Option.getD,Option.isSome]
         have z0:w4.cell? ⟨r,0,none⟩=some (.bool (mem a x)):=by
          have h:=Hst.out;refine(Hb4.out.cell (p:=⟨r,0,none⟩) (Array.getElem?_eq_some_iff.1 h).1).trans ?_;simp[World.cell?,h]
         have z1:w4.cell? ⟨r,1,none⟩=some (.bool (mem b x)):=by
          have h:=Hst.out;refine(Hb4.out.cell (p:=⟨r,1,none⟩) (Array.getElem?_eq_some_iff.1 h).1).trans ?_;simp[World.cell?,h]
         have HJ4:=hid (HJ.out _ _ _ Hj.out ((Kept.refl (fun k=>¬(k=ba∨k=bb)) wc).below Hb4.out));have HA4:=hid (HA.out.kept (Hb4.out.block ba (Array.getElem?_eq_some_iff.1 HA.out.choose_spec.choose_spec.choose_spec.1).1));have HB4:=hid (HB.out.kept (Hb4.out.block bb (Array.getElem?_eq_some_iff.1 HB.out.choose_spec.choose_spec.choose_spec.1).1));have H04:=hid (H0c.out.trans (Hb4.out.mono H0c.out.size));clear q1 q2 Hb4;obtain⟨hy1,hy2,hy3,hy4⟩:=HnT.out u Hsel.out;have Hp:=hid (HdT.out _ Hsel.out);have HC:=hid (show Chn a b 0 (pre++[((x,u - 1),(mem a x,mem b x))]) u from by have h:=Hpc.out.1;rw[Hp.out] at h;simpa [show u - 1+1=u by omega] using h);have hw1:IntKind.u64.wrap ((u:Int) - 1)=((u - 1:Nat):Int):=by rw[IntKind.wrap_u64];omega
         obtain⟨fn,tmps,assign,body,hy,hR⟩:=HY.out pre ((x,u - 1),(mem a x,mem b x)) w4 ⟨_,HC.out⟩ HJ4.out;simp only[pcE,ivV] at hy
         try rw[show ((18446744073709551615:Nat):Int)=18446744073709551615 from rfl] at hy
         go_upto_region 13 with fail
         refine(wpIn_wide (n:=n)).1 ?_
         gi_wp2
         first | refine hR.mono ?_ | refine⟨fun h=>(by cases h),hR.mono ?_⟩
         rintro e W3 (⟨rfl,hJ3,hk3⟩ | ⟨rfl,hJx3⟩)
         · gi_wp2
           go_wp2;go_roundw
           case rel=>
            have e3:=hk3.toBelow (n:=w0.heap.size) (fun k hk=>.inl hk) H04.out.size;exact⟨u,_,rfl,hy2,⟨hy4,HC.out,H04.out.trans e3,hJ3⟩,⟨x,Nat.le_of_lt hy1,HA4.out.kept (hk3.row ba (Array.getElem?_eq_some_iff.1 HA4.out.choose_spec.choose_spec.choose_spec.1).1 (.inr (.inl rfl)))⟩,⟨x,Nat.le_of_lt hy1,HB4.out.kept (hk3.row bb (Array.getElem?_eq_some_iff.1 HB4.out.choose_spec.choose_spec.choose_spec.1).1 (.inr (.inr rfl)))⟩⟩
           case measure=>simp[intOf];omega
         · gi_wp2
           go_wp2;refine bodyPost_ret (results_none rfl _ _ _) rfl ?_;exact⟨⟨_,rfl⟩,.inr ⟨_,⟨_,HC.out⟩,hJx3⟩⟩
end
section
open Go.RowKit
theorem z3u (L:List Nat) (x p:Nat):(zi L).take p++([Value.int .u64 (x:Int)]++(zi L).drop p)=zi (L.take p++x :: L.drop p):=by
 simp[zi,List.map_take,List.map_drop]
theorem z3v (Br base:Nat) (v:Value) (L:List Nat) (x:Nat) (w:World) (hB:w.heap[Br]?=some (.cells #[v] 355 (0,0))) (ho:w.ownsRow base 52 1 v L.length (zi L)) (hbr:Br<base) (hbs:base≤w.heap.size)
 (hl:∀y∈L,y<18446744073709551616) (hA:Asc L) (hx:x∉L) (hn:L.length+1≤1000000):
 Calls Tryz.prog 267 #[.pointer (some ⟨Br,0,none⟩),.int .u64 x] w fun e w'=>e=.returned (.tuple #[])∧
  ∃v',w'.heap[Br]?=some (.cells #[v'] 355 (0,0))∧w'.ownsRow base 52 1 v' (jo L x).length (zi (jo L x))∧Kept (fun k=>k<base∧k≠Br) w w':=by
 obtain⟨a,c,rfl,hU⟩:=zbf ho hl;have Ho:=hid ho;have HA:=hid hA;have Hx:=hid hx;have HB:=hid hB;have hBw:Br<w.heap.size:=(Array.getElem?_eq_some_iff.1 hB).1;have q1:=y7 hB;have hC:=hid (z0u a L.length c x L w hU hA (by omega));clear ho hA hx hB hU hl;go_enter Tryz.func267,Tryz.ntmps267;go_wp2_with fail;refine hC.out.mono ?_;rintro e w1 ⟨⟨p,z,rfl,hp,h1,h2⟩,hw⟩;have hw:=hw.symm;subst hw;have HI:=hid (zri HA.out Hx.out hp h1 h2);clear h1 h2;have hal:Below w.heap.size w (w.alloc (.cells #[.int .u64 x] 52)):=(Below.refl _ _).alloc (Nat.le_refl _) _
 have hIns:=hid (z0j base (.slice a L.length c) L.length p w.heap.size (zi L) [.int .u64 x] (w.alloc (.cells #[.int .u64 x] 52)) (zm Ho.out hal) (z7 rfl)
  (fun e=>by have:=(Ho.out.lt _ e).2;omega) rfl (zjx L) (by simp[Value.oneCell']) hp hn (by simp;omega))
 have q2:=qk (o:=.cells #[.int .u64 x] 52) HB.out;have q3:=y7 q2;have Hal:=hid hal;clear hal q2;go_wp2_with fail;refine hIns.out.mono ?_;rintro e w2 ⟨v',rfl,ho2,hg2⟩
 have hBk:w2.heap[Br]?=some (.cells #[.slice a L.length c] 355 (0,0)):=by
  refine(hg2.block Br (by simp;omega) (fun e=>?_)).trans (qk HB.out);have:=(Ho.out.lt Br e.symm).1;omega
 have q4:=y7 hBk;have q5:=zam hBk;have HBk:=hid hBk;have Ho2:=hid ho2;have Hg2:=hid hg2;obtain⟨b',c',rfl⟩:=ks ho2;clear hBk ho2 hg2 q1 q3;go_wp2;go_end0
 refine⟨rfl,_,zcj HBk.out,?_,?_⟩
 · rw[HI.out];have h:=Ho2.out;rw[z3u] at h;have hl:(L.take p++x :: L.drop p).length=L.length+1:=by simp;omega
   rw[hl];exact qr h (fun k hk1 hk2=>Below.heap_setCell _ _ _ _ (by simp only;omega))
 · refine Kept.setCell ?_ (by simp) _;refine((Kept.refl _ w).alloc _).grown Hg2.out (fun k hk hkw hkb=>?_);have:=(Ho.out.lt k hk).1;omega
end
section
open Go.RowKit Go.Shelf
attribute [local go_sem] Oper.semAt_some zd7
theorem zt5 (a:Option Addr) (n c t:Nat) (w:World):Calls Tryz.prog 205 #[.slice a n c,.int .u64 t] w fun e w'=>
 e=.returned (.func (.func 246) #[] #[.pointer (some ⟨w.heap.size,0,none⟩),.pointer (some ⟨w.heap.size+1,0,none⟩)])∧w'=(w.alloc (.cells #[.slice a n c] 25)).alloc (.cells #[.int .u64 t] 52):=by
 go_enter Tryz.func205,Tryz.ntmps205;go_wp2;go_ret;exact⟨by simp,rfl⟩
theorem zir (w:World) (x y:Value) (T:TypeId) (w':World) (h:Below (w.alloc (.cells #[x,y] T)).heap.size (w.alloc (.cells #[x,y] T)) w'):
 w'.cell? ⟨w.heap.size,0,none⟩=some x∧w'.cell? ⟨w.heap.size,1,none⟩=some y:=by
 have hrow:(w.alloc (.cells #[x,y] T)).heap[w.heap.size]?=some (.cells #[x,y] T):=z7 rfl
 exact⟨(h.cell (p:=⟨w.heap.size,0,none⟩) (by simp)).trans (zu (i:=0) hrow rfl),
  (h.cell (p:=⟨w.heap.size,1,none⟩) (by simp)).trans (zu (i:=1) hrow rfl)⟩
abbrev WEl:=Nat×Value×Value
def zlb (x:WEl):Array Value:= #[.int .i64 ((x.1:Nat):Int),.agg #[x.2.1,x.2.2]]
def ze5 (w:World) (k:Kno) (x:WEl):Prop:=(∃a n c,x.2.1=.slice a n c∧Ivs w a n c (za k x.1).1)∧∃a n c,x.2.2=.slice a n c∧Ents w a n c (za k x.1).2
set_option maxRecDepth 20000 in
theorem zt6 (n:Nat) (w0 w:World) (bk bt:Nat) (a:Option Addr) (m c t:Nat) (k:Kno) (hE:Frags w0 a m c k) (hG:∀f∈k,Good f.1∧f.1.length≤1000000) (hb0:Below w0.heap.size w0 w) (hm:m≤500)
 (hbk:w.heap[bk]?=some (.cells #[.slice a m c] 25)) (hbt:w.heap[bt]?=some (.cells #[.int .u64 t] 52)):
 zms n Tryz.prog 246 #[.pointer (some ⟨bk,0,none⟩),.pointer (some ⟨bt,0,none⟩)] zlb
  (fun pre=>(∃rest,zw k t=pre.map (·.1)++rest)∧∀x∈pre,ze5 w0 k x) (fun xs=>zw k t=xs.map (·.1)∧∀x∈xs,ze5 w0 k x)
  (fun _=>False) (fun k=>k<w0.heap.size∨k=bk∨k=bt) w:=by
 intro l J Jx W hl hW hJ hJx hY h0;have H0:=hid (hb0.trans (hW.mono hb0.size));have hrk:=(hW.block bk (Array.getElem?_eq_some_iff.1 hbk).1).trans hbk;have hrt:=(hW.block bt (Array.getElem?_eq_some_iff.1 hbt).1).trans hbt;have Hrt:=hid hrt;have HE:=hid hE;have Hl:=hid hE.len;have HG:=hid hG;have HJ:=hid (fun s A B (h:J s A) (hb:Below A.heap.size A B)=>hJ s A B h ((Kept.refl _ A).below hb));have HY:=hid hY;have Hj0:=hid h0;clear hE hb0 hbk hbt hW hJ hJx hY h0 hl hG hrt;refine callsIn_of_wp Tryz.func246 rfl trivial ?_ rfl;simp only[Tryz.ntmps246,List.size_toArray,List.length_cons,List.length_nil,Nat.reduceAdd,Nat.reduceSub,Array.replicate_succ,Array.replicate_zero,List.push_toArray,List.append_toArray,List.nil_append,List.cons_append];have q1:=y7 hrk;clear hrk
 gi_wp2
 clear q1
 gi_loopw [4,5,8] (fun _ _ i wr=>∃d:Nat,d≤m∧i=.int .i64 d∧Hid (Below w0.heap.size w0 wr∧wr.heap[bt]?=some (.cells #[.int .u64 t] 52)∧∃pre,J pre wr∧kz k t d=pre.map (·.1)∧∀x∈pre,ze5 w0 k x)) (fun _ _ i _=>m - (intOf i).toNat)
 case atStart=>exact⟨0,by omega,rfl,H0.out,Hrt.out,[],Hj0.out,rfl,fun x hx=>by cases hx⟩
 case round=>
  obtain⟨d,hd,rfl,hinv⟩:=hrel;obtain⟨hb,hrt,pre,hj,hpre,hsl⟩:=hinv.out;by_cases hdm:d<m
  · have hdk:d<k.length:=by rw[Hl.out];exact hdm
    obtain⟨bb,oo,rfl⟩:=HE.out.some (by omega);obtain⟨x,n1,c1,y,n2,c2,hq⟩:=HE.out.fix hdm;obtain⟨q1,hI,q2,hV⟩:=hq wr hb;have Hsl0:=hid (show ze5 w0 k (d,.slice x n1 c1,.slice y n2 c2) from⟨⟨_,_,_,rfl,(hq w0 (Below.refl _ _)).2.1⟩,_,_,_,rfl,(hq w0 (Below.refl _ _)).2.2.2⟩);have Hst:=hid (zib k t d)
    have Hmem:=hid (show mem (za k d).1 t=true→∃rest,zw k t=kz k t d++[d]++rest from fun h=>by
     have h1:zw k t=kz k t k.length:=rfl
     have h2:∀e,kz k t (d+1+e)=kz k t (d+1)++((List.range e).map (d+1+·)).filter fun i=>mem (za k i).1 t:=by
      intro e;unfold kz;rw[List.range_add,List.filter_append]
     obtain⟨e,he⟩:∃e,k.length=d+1+e:=⟨k.length - (d+1),by omega⟩;rw[h1,he,h2,zib,if_pos h];exact⟨_,rfl⟩)
    have hal:Below wr.heap.size wr (wr.alloc (.cells #[.slice x n1 c1,.slice y n2 c2] 85)):=(Below.refl _ _).alloc (Nat.le_refl _) _;have hg:=HG.out _ (yb hdk);have hC:=hid (zn1 x n1 c1 t (za k d).1 _ (hI.below hal) hg.1 (by rw[←hI.len];exact hg.2));have Hal:=hid hal;have hz1:(wr.alloc (.cells #[.slice x n1 c1,.slice y n2 c2] 85)).cell? ⟨bt,0,none⟩=some (.int .u64 t):=y7 (qk hrt);have Hb:=hid hb;have Hrt:=hid hrt;have Hj:=hid hj;have Hpre:=hid hpre;have Hsl:=hid hsl;have h0d:(0:Int)≤d:=by omega
    have h04:(d:Int)<(m:Int):=by omega
    clear hb hrt hj hpre hsl hq hI hV hinv hal hg;generalize mem (za k d).1 t=b at*
    gi_wp2_with fail
    refine⟨fun h=>(by cases h),(callsIn_wide.2 hC.out).mono ?_⟩;rintro e w1 ⟨rfl,hb1⟩;have Hb1:=hid hb1;clear hb1 hz1 q1 q2;have Hw1:=hid (Hal.out.trans (Hb1.out.mono Hal.out.size));have Hb1w:=hid (Hb.out.trans (Hw1.out.mono Hb.out.size));have Hrt1:=hid ((Hw1.out.block _ (Array.getElem?_eq_some_iff.1 Hrt.out).1).trans Hrt.out);have Hj1:=hid (HJ.out _ _ _ Hj.out Hw1.out);obtain⟨f0,f1⟩:=zir wr (.slice x n1 c1) (.slice y n2 c2) 85 w1 Hb1.out
    cases b with
    | false=>
     rw[if_neg (by simp),List.append_nil] at Hst
     gi_wp2
     go_roundw
     case rel=>exact⟨d+1,by omega,by go_num,Hb1w.out,Hrt1.out,pre,Hj1.out,by rw[Hst.out];exact Hpre.out,Hsl.out⟩
     case measure=>simp[intOf];omega
    | true=>
     rw[if_pos rfl] at Hst;have hmm:=Hmem.out rfl;obtain⟨rest,hrest⟩:=hmm
     have hV:(∃rest,zw k t=(pre++[((d,.slice x n1 c1,.slice y n2 c2):WEl)]).map (·.1)++rest)∧∀x'∈pre++[((d,.slice x n1 c1,.slice y n2 c2):WEl)],ze5 w0 k x':=by
      refine⟨⟨rest,by rw[hrest,Hpre.out,List.map_append];rfl⟩,fun x' hx'=>?_⟩;rcases List.mem_append.1 hx' with h | h
      · exact Hsl.out x' h
      · rw[List.mem_singleton] at h;rw[h];exact Hsl0.out
     have HV:=hid hV;obtain⟨fn,tmps,assign,body,hy,hR⟩:=HY.out pre (d,.slice x n1 c1,.slice y n2 c2) w1 hV Hj1.out;simp only[zlb] at hy;clear hV hrest
     gi_wp2
     first | refine hR.mono ?_ | refine⟨fun h=>(by cases h),hR.mono ?_⟩
     rintro e W3 (⟨rfl,hJ3,hk3⟩ | ⟨rfl,hJx3⟩)
     · have H3:=hid (show Below w0.heap.size w0 W3∧W3.heap[bt]?=some (.cells #[.int .u64 t] 52)∧∃pre,J pre W3∧kz k t (d+1)=pre.map (·.1)∧∀x∈pre,ze5 w0 k x from
        ⟨Hb1w.out.trans (hk3.toBelow (fun k hk=>.inl hk) Hb1w.out.size),(hk3.row _ (Array.getElem?_eq_some_iff.1 Hrt1.out).1 (.inr (.inr rfl))).trans Hrt1.out,_,hJ3,by rw[Hst.out,Hpre.out,List.map_append];rfl,HV.out.2⟩)
       clear hJ3 hk3 hy hR f0 f1
       gi_wp2
       go_roundw
       case rel=>exact⟨d+1,by omega,by go_num,H3.out⟩
       case measure=>simp[intOf];omega
     · have HX:=hid (show ∃pre,((∃rest,zw k t=pre.map (·.1)++rest)∧∀x∈pre,ze5 w0 k x)∧Jx pre W3 from⟨_,HV.out,hJx3⟩);clear hJx3 hy hR f0 f1
       gi_wp2
       go_wp2;refine bodyPost_ret (results_none rfl _ _ _) rfl ?_;exact⟨⟨_,rfl⟩,.inr HX.out⟩
  · obtain rfl:d=m:=by omega
    have HF:=hid (show ∃xs,(zw k t=xs.map (·.1)∧∀x∈xs,ze5 w0 k x)∧J xs wr from⟨pre,⟨by rw[←hpre,←Hl.out];rfl,hsl⟩,hj⟩);clear hb hrt hj hpre hsl hinv
    gi_wp2
    refine bodyPost_end (results_none rfl _ _ _) rfl ?_;exact⟨⟨_,rfl⟩,.inl HF.out⟩
end
end Go.Proofs.YtdnjfnofjaoajaaGreatDoor
