/- Part 19. -/
import Derived.Test.YtdnipikdddfhfaaGreatDoorOb18
set_option linter.unusedVariables false
set_option maxHeartbeats 16000000
namespace Go.Proofs.YtdnipikdddfhfaaGreatDoor
open Lib (hid)
section
open Go.RowKit
attribute [local go_sem] qj
structure ItemOut (base g i n cap:Nat) (vs:List Vec) (l:List Iv) (ix:List Nat) (W w':World) (gS m cS:Nat) (S:Value):Prop where
 below:Below base W w'
 cell:w'.cell? ⟨g,i*2,none⟩=some S
 frozen:w'.frozen? ⟨g,i*2,none⟩=false
 row:∀g' T C,Row W g' T C→T≠89→Row w' g' T C
 used:∀U ux,UsedM W U ux→UsedM w' U ux
 fin:SegM (w'.setCell ⟨g,i*2,none⟩ (.slice (some ⟨gS,0,none⟩) m cS)) base (.slice (some ⟨g,0,none⟩) n cap) vs l ix
theorem ztx {w W:World} {ops:Array Oper} {o:Oper} {a:Act} {K:Act→World→Prop} {Q:Exit→Act→World→Prop} {E:Prop} (hgd:o.guard=none) (s x:Operand)
 (ho:o.op=.call { callee:=.builtin .append,args:= #[s,x],argTypes:= #[91,91] }) (hty:o.type=91)
 {base g n cap:Nat} {vs:List Vec} {l:List Iv} {ix:List Nat} (hM:SegM w base (.slice (some ⟨g,0,none⟩) n cap) vs l ix) (hn:n=vs.length) (hli:ix.length=l.length) {i:Nat} (hi:i<n) {S:Value} (hS:w.cell? ⟨g,i*2,none⟩=some S) (t:Iv) (hW:Below w.heap.size w W) (hbw:base≤w.heap.size)
 (hs:a.eval s=S) (A:Option Addr) (c:Nat) (hx:a.eval x=.slice A 1 c) (hr:Rd W 2 A 1 (ivC [t])) (hb:l.length+1≤1000000000000)
 (hK:∀gS m cS w',ItemOut base g i n cap vs (l++[t]) (ix++[i]) w w' gS m cS S→K (a.put o.dst (.slice (some ⟨gS,0,none⟩) m cS)) w'):
 if Region.wanted o (yielded ops a.tmps)=true then Oper.wp Tryz.prog o a W K Q else E:=by
 subst hn;obtain⟨S',w',hrun,⟨gS,m,cS,rfl⟩,h5,h6,h3,h4,h7⟩:=hM.put hli hi hS t W hW A c hr hb;refine zhj hgd s x _ ho _ _ hs hx _ w' (by rw[hty];exact hrun) ?_;refine hK gS m cS w' ⟨?_,h3,h4,fun g' T C hR hT=>(hR.later hW).grown h5 fun e=>?_,fun U ux hU=>(hU.same (hW.block U hU.lt)).same (h5.block U (Nat.lt_of_lt_of_le hU.lt hW.size) fun e=>?_),h7 w' (za7 _ _)⟩
 · exact(hW.mono hbw).grown h5 (Nat.le_trans hbw hW.size) fun k hk=>(h6 k hk).1
 · obtain⟨-,C',fr,hk⟩:=h6 g' e.symm;replace hR:=hR.later hW;unfold Row at hR;rw[hk] at hR;injection hR with hR;injection hR with _ hR _;exact hT hR.symm
 · obtain⟨-,C',fr,hk⟩:=h6 U e.symm;exact(hU.same (hW.block U hU.lt)).ne hk rfl
structure IRows (w w':World) (base R:Nat) (L:za) (part K:Value) (U C B:Nat) (S Cu:List Value) (ux ix:List Nat) (vs:List Vec) (l:List Iv):Prop where
 below:Below base w w'
 row:Row w' R 130 (wkC L part K U C .nilIface)
 srow:Row w' B 204 S
 cur:Row w' C 193 Cu
 used:UsedM w' U ux
 seg:SegM w' base K vs l ix
theorem ItemOut.rows {w w':World} {base g i n cap gS m cS R U C B:Nat} {vs:List Vec} {l l':List Iv} {ix ix':List Nat} {Sv:Value} {L:za} {part:Value} {S Cu:List Value} (h:ItemOut base g i n cap vs l' ix' w w' gS m cS Sv) (hS:SRows w base R L part (.slice (some ⟨g,0,none⟩) n cap) U C B S Cu ix vs l) (hg:base≤g):
 IRows w (w'.setCell ⟨g,i*2,none⟩ (.slice (some ⟨gS,0,none⟩) m cS)) base R L part (.slice (some ⟨g,0,none⟩) n cap) U C B S Cu ix ix' vs l':=by
 obtain⟨w2,X,Y,-,-,-,h4,-,-⟩:=hS.seg;have ne:∀{g' T C'},Row w g' T C'→T≠97→g'≠g:=fun hR hT e=>hR.ne_own h4 hT g rfl e.symm
 have hrow:∃C' fr,w.heap[g]?=some (.cells C' 97 fr):=by
  rcases h4.2 with ⟨h',_⟩ | ⟨g',cap',cur,h',_,hh,_⟩
  · cases h'
  · cases h';exact⟨_,_,hh⟩
 obtain⟨C',fr,hrow⟩:=hrow;refine⟨h.below.setCell (p:=⟨g,i*2,none⟩) hg _,(h.row _ _ _ hS.row (by decide)).other (a:=⟨g,i*2,none⟩) (ne hS.row (by decide)) _,(h.row _ _ _ hS.srow (by decide)).other (a:=⟨g,i*2,none⟩) (ne hS.srow (by decide)) _,(h.row _ _ _ hS.cur (by decide)).other (a:=⟨g,i*2,none⟩) (ne hS.cur (by decide)) _,(h.used _ _ hS.used).same (heap_setCell_other _ ⟨g,i*2,none⟩ U _ fun e=>?_),h.fin⟩;exact hS.used.ne hrow e
theorem IRows.map {w wc w':World} {base R U C B:Nat} {S Cu:List Value} {ux ix ix':List Nat} {vs:List Vec} {l:List Iv} {L:za} {part K:Value} (h:IRows w wc base R L part K U C B S Cu ux ix vs l) (hu:UsedM w' U ix') (hg:wc.grownBy w' (some U)) (hi:ix=ix'):SRows w' base R L part K U C B S Cu ix' vs l:=by
 subst hi;have ne:∀{g T C'},Row wc g T C'→some g≠some U:=fun hR e=>by injection e with e;exact h.used.ne (show wc.heap[_]?=_ from hR) e.symm
 exact⟨h.row.grown hg (ne h.row),h.srow.grown hg (ne h.srow),h.cur.grown hg (ne h.cur),hu,h.seg.grown h.used.notT hg⟩
def zbg (E:Nat) (s:WS) (p q x:Nat):Except (Nat×Nat) WS:=
 if s.vs.length≤x then .error (8,p) else if s.tch=true∧s.ix.getLast?=some x then .error (10,p) else
  if s.left=1 then qu E { s with l:=s.l++[(s.lo,s.hi)],ix:=s.ix++[x],left:=0,turn:=0 } q
  else .ok { s with l:=s.l++[(s.lo,s.hi)],ix:=s.ix++[x],left:=s.left - 1,turn:=0 }
set_option maxRecDepth 100000 in
theorem zty (base R:Nat) (L:za) (s:WS) (K:Value) (U C B E x p q lo0:Nat) (last:Int) (touch:Bool) (w0 w:World) (ht:s.tag=3) (hR0:base≤R) (hU:base≤U) (hC:base≤C) (hB0:base≤B) (hb0:Below base w0 w)
 (hS:SRows w base R L (jy B) K U C B (sgC s.left 2 last touch) (ym C 0 lo0 (some (s.lo,s.hi)) false) s.ix s.vs s.l) (hla:∀x,s.ix.getLast?=some x→last=(x:Int)) (hto:touch=s.tch) (htn:s.tch=true→s.ix≠[]) (hF:WFit s p) (hleft:0<s.left)
 (hx:x<18446744073709551616) (hq:q=p+(zo x).length) (hqE:q≤E) (hE:q≤900000000000) (hrs:E - q<9223372036854775808):
 Calls Tryz.prog 113 #[.pointer (some ⟨R,0,none⟩),.pointer (some ⟨B,0,none⟩),.int .u64 (x:Int),.int .i64 (p:Int),.int .i64 ((E - q:Nat):Int)] w (WkS w0 base R L (zbg E s p q x)):=by
 subst hto;obtain⟨ka,kc,hKe⟩:=hS.seg.len;subst hKe;obtain⟨n,hn⟩:∃n,n=s.vs.length:=⟨_,rfl⟩;have Hn:=hid hn;have q6:=hS.row.cell 6 rfl;have q8:=hS.row.cell 8 rfl;have v1:w.cell? ⟨B,1,none⟩=some (.int .i64 2):=hS.srow.cell 1 rfl;have v2:=hS.srow.cell 2 rfl;have v3:=hS.srow.cell 3 rfl;have hnl:n≤1000000000000:=by rw[hn];have:=hF.vsl;omega
 have hwn:IntKind.u64.wrap (n:Int)=(n:Int):=by rw[IntKind.wrap_u64];omega
 have Ht:=hid ht;have Hla:=hid hla;have Htn:=hid htn;have HF:=hid hF;have Hleft:=hid hleft;have HS:=hid hS;have Hb0:=hid hb0;have Hx:=hid hx;have Hq:=hid hq;have HqE:=hid hqE;have HE:=hid hE;have HRs:=hid hrs;have Hbw:=hid (show base≤w.heap.size by have:=hS.row.lt;omega);have HLa:=hid (zjn C 0 lo0 (some (s.lo,s.hi)) false w hS.cur);rw[←hn] at q6;clear ht hla htn hF hleft hS hb0 hx hq hE hrs hn;by_cases h8:n≤x
 · have Hv:=hid (show zbg E s p q x=.error (8,p) from if_pos (by rw[←Hn.out];exact h8));have HN:=hid (fun W=>vd (c:=8) (o:=p) (by decide) W);go_enter Tryz.func113,Tryz.ntmps113;go_wp2_with fail;refine(HN.out _).mono ?_;rintro e w' ⟨rfl,rfl⟩;go_wp2_with fail;go_ret;exact⟨Hb0.out,by rw[Hv.out];exact⟨rfl,_,HS.out.row,rfl⟩⟩
 · have hxn:x<n:=by omega
   have hwx:IntKind.i64.wrap (x:Int)=(x:Int):=by rw[IntKind.wrap_i64];omega
   by_cases h10:s.tch=true∧s.ix.getLast?=some x
   · have Hv:=hid (show zbg E s p q x=.error (10,p) from by
      unfold zbg;rw[if_neg (by rw[←Hn.out];exact h8),if_pos h10])
     have HN:=hid (fun W=>vd (c:=10) (o:=p) (by decide) W);have hl:=Hla.out x h10.2;rw[hl] at v2;rw[h10.1] at v3;clear h10 hl h8;go_enter Tryz.func113,Tryz.ntmps113;go_wp2_with fail;refine(HN.out _).mono ?_;rintro e w' ⟨rfl,rfl⟩;go_wp2_with fail;go_ret;exact⟨Hb0.out,by rw[Hv.out];exact⟨rfl,_,HS.out.row,rfl⟩⟩
   · have hgd:(s.tch=false)∨(s.tch=true∧((x:Int) == last)=false):=by
      cases htc:s.tch with
      | false=>exact .inl rfl
      | true=>
       right;refine⟨rfl,?_⟩;rw[beq_eq_false_iff_ne];intro e;have hne:=Htn.out htc
       obtain⟨y,hy⟩:∃y,s.ix.getLast?=some y:=by
        cases hg:s.ix.getLast? with
        | none=>exact absurd (List.getLast?_eq_none_iff.1 hg) hne
        | some y=>exact⟨y,rfl⟩
       have:=Hla.out y hy;have hxy:x=y:=by omega
       exact h10 ⟨htc,by rw[hy,hxy]⟩
     have Hvv:=hid (show zbg E s p q x=if s.left=1 then qu E { s with l:=s.l++[(s.lo,s.hi)],ix:=s.ix++[x],left:=0,turn:=0 } q else .ok { s with l:=s.l++[(s.lo,s.hi)],ix:=s.ix++[x],left:=s.left - 1,turn:=0 } from by
      unfold zbg;rw[if_neg (by rw[←Hn.out];exact h8),if_neg h10])
     obtain⟨gk,kcap,hke,hgk,hgkl,-,S,cS⟩:=HS.out.seg.at (i:=x) (by rw[←Hn.out];exact hxn);have hka:ka=some ⟨gk,0,none⟩:=by injection hke
     subst hka;have hkc:kc=kcap:=by injection hke
     subst hkc;simp only[ivV,Option.getD_some,Option.isSome_some] at HLa;have h0x:(0:Int)≤x:=by omega
     have h0n:(x:Int)<(n:Int):=by omega
     have Hgk:=hid hgk;clear h10 h8 hke hgk;have Hgd:=hid hgd;clear hgd;go_enter Tryz.func113,Tryz.ntmps113;go_upto_region 5 with fail
     go_cut [47] (fun v wc=>v=.bool false∧wc=w)
     case first=>
      rcases Hgd.out with hgd | ⟨hgd,hge⟩
      all_goals
       rw[hgd] at v3;clear hgd;go_wp2_with fail;go_meet
       exact⟨rfl,rfl⟩
     case rest=>
      obtain⟨rfl,rfl⟩:=hcut;clear Hgd;go_wp2_with fail;refine HLa.out.mono ?_;rintro e w1 ⟨rfl,hb1⟩;have hS1:=HS.out.later hb1;obtain⟨w2,hw2⟩:∃w2,w2=w1.alloc (.cells #[.int .u64 ((s.lo:Nat):Int),.int .u64 ((s.hi:Nat):Int)] 89):=⟨_,rfl⟩;have hb2:Below w1.heap.size w1 w2:=by rw[hw2];exact(Below.refl _ _).alloc (Nat.le_refl _) _
      have hX:Row w2 w1.heap.size 89 [.int .u64 ((s.lo:Nat):Int),.int .u64 ((s.hi:Nat):Int)]:=by rw[hw2];exact yf _ _ _
      have hS2:=hS1.later hb2;have x0:=hX.cell 0 rfl;have x1:=hX.cell 1 rfl;have p6:=hS2.row.cell 6 rfl;rw[←Hn.out] at p6;have cS2:w2.cell? ⟨gk,x*2,none⟩=some S:=(hb2.cell (p:=⟨gk,x*2,none⟩) (Nat.lt_of_lt_of_le (ze cS) hb1.size)).trans ((hb1.cell (p:=⟨gk,x*2,none⟩) (ze cS)).trans cS);have hal:∀o,Below w2.heap.size w2 (w2.alloc o):=fun o=>(Below.refl _ _).alloc (Nat.le_refl _) o
      have p6o:=fun o=>((hal o).cell (p:=⟨R,6,none⟩) (ze p6)).trans p6
      have cSo:=fun o=>((hal o).cell (p:=⟨gk,x*2,none⟩) (ze cS2)).trans cS2
      have HS2:=hid hS2;have HS2n:=hid (show SRows w2 base R L (jy B) (.slice (some ⟨gk,0,none⟩) n kc) U C B (sgC s.left 2 last s.tch) (ym C 0 lo0 (some (s.lo,s.hi)) false) s.ix s.vs s.l from by rw[Hn.out];exact hS2);have hseg2:=hS2.seg;rw[←Hn.out] at hseg2;have hbw2:base≤w2.heap.size:=by have:=hS2.row.lt;omega
      have Hb2:=hid (Hb0.out.trans ((hb1.mono Hbw.out).trans (hb2.mono (Nat.le_trans Hbw.out hb1.size))));have hll:s.l.length+1≤1000000000000:=by have:=HF.out.ll;have:=Hq.out;have:=HE.out;omega
      have Hll:=hid hll;have Hli:=hid HF.out.li;clear hb1 hb2 hX hS1 hS2 hal q6 q8 hll cS;go_wp2_with fail;rw[←hw2];clear hw2;have HRw:=hid (show base≤gk from Hgk.out);go_cut [] (fun wc=>Hid (IRows w2 wc base R L (jy B) (.slice (some ⟨gk,0,none⟩) n kc) U C B (sgC s.left 2 last s.tch) (ym C 0 lo0 (some (s.lo,s.hi)) false) s.ix (s.ix++[x]) s.vs (s.l++[(s.lo,s.hi)])))
      case first=>
       go_region_law (first
        | (refine ztx rfl (.tmp 70) (.tmp 72) rfl rfl hseg2 Hn.out Hli.out hxn cS2 (s.lo,s.hi) ?hW hbw2 rfl _ _ rfl (kw (j2 _ _ _ (by simp)) rfl rfl) Hll.out ?_
           case hW=>repeat (first | exact Below.refl _ _ | refine Below.alloc ?_ (by simp) _ | refine Below.drew ?_ | refine zv ?_ _)
           intro gS m cS' w4 hO;have hq4:=hO.cell;have hf4:=hO.frozen;have p6w:=(hO.row R _ _ HS2.out.row (by decide)).cell 6 rfl;rw[←Hn.out] at p6w;have HO:=hid hO;clear hO))
       all_goals
        go_wp2;go_meet
        exact HO.out.rows HS2n.out HRw.out
      case rest=>
       have HI:=hid hcut.out;have hU3:=hcut.out.used;have q7:=hcut.out.row.cell 7 rfl;have hxi:x<9223372036854775808:=by omega
       have hil:s.ix.length<9223372036854775807:=by have:=HF.out.ll;have:=HF.out.li;have:=Hq.out;have:=HE.out;omega
       have hbc:=Hb2.out.trans hcut.out.below;have Hbc:=hid hbc;have Hbwc:=hid (show base≤wc.heap.size by have:=hcut.out.row.lt;omega);clear hcut hseg2 cS2 cSo p6o p6 hbc;obtain⟨k,hk⟩:∃k,k=s.left:=⟨_,rfl⟩;rw[←hk] at HI;have Hk:=hid hk;have hk0:=Hleft.out;have hk1:=HF.out.left;rw[←hk] at hk0 hk1;obtain⟨k1,hkk⟩:∃k1,k1=k - 1:=⟨_,rfl⟩;have hkw:IntKind.u64.wrap ((k:Int) - 1)=(k1:Int):=by rw[IntKind.wrap_u64];omega
       have Hkk:=hid hkk;by_cases hl1:k=1
       · have hz:((k1:Int) == 0)=true:=by rw[beq_iff_eq];omega
         have Hv:=hid (Hvv.out.trans (if_pos (by rw[←Hk.out];exact hl1)));have hpq:IntKind.i64.wrap ((p:Int)+((zo x).length:Int))=(q:Int):=by have:=Hq.out;have:=HqE.out;have:=HE.out;rw[IntKind.wrap_i64];omega
         have HSz:=hid (fun W=>zdh x W Hx.out);obtain⟨fr,hfr⟩:∃fr,fr=qu E { s with l:=s.l++[(s.lo,s.hi)],ix:=s.ix++[x],left:=0,turn:=0 } q:=⟨_,rfl⟩;rw[←hfr] at Hv
         have HFn:=hid (fun K U C W h1 h2 h3 h4 h5 h6=>hfr ▸ zj7 base R L { s with l:=s.l++[(s.lo,s.hi)],ix:=s.ix++[x],left:=0,turn:=0 } (jy B) K U C E q W h1 h2 h3 h4 h5 h6 (by simp[HF.out.li]) (by
          intro i hi;simp only[List.mem_append,List.mem_singleton] at hi;rcases hi with hi | rfl
          · exact HF.out.ix i hi
          · have:=Hn.out;exact this ▸ hxn) HRs.out HqE.out)
         clear hk hk0 hk1 hkk hl1 hfr;go_wp2_with (at_mapUpdate;refine zjl rfl _ _ _ rfl U s.ix hU3 x hxi hil rfl rfl rfl ?_;intro w5 hu5 hg5;have hS5:=HI.out.map hu5 hg5 rfl;have t2:=hS5.srow.cell 2 rfl;have y2:=hS5.srow.fz 2;have t0:=hS5.srow.cell 0 rfl;have y0:=hS5.srow.fz 0;have HS7:=hid ((hS5.setB 2 (.int .i64 (x:Int))).setB 0 (.int .u64 (k1:Int)));have Hb7:=hid (((Hbc.out.grown hg5 Hbwc.out (fun k hk=>by injection hk with hk;omega)).setCell (p:=⟨B,2,none⟩) hB0 (.int .i64 (x:Int))).setCell (p:=⟨B,0,none⟩) hB0 (.int .u64 (k1:Int)));clear hu5 hg5 hS5);refine(HSz.out _).mono ?_;rintro e w6 ⟨rfl,rfl⟩;go_wp2_with fail;refine(HFn.out _ U C _ hR0 hU hC HS7.out.row HS7.out.used (by have:=HS7.out.seg;exact this)).mono ?_;rintro e w6 ⟨hb6,hr6⟩
         cases fr with
         | error c=>
          obtain⟨rfl,hr6⟩:=hr6;go_wp2_with fail;go_ret
          exact⟨Hb7.out.trans hb6,by rw[Hv.out];exact⟨rfl,hr6⟩⟩
         | ok s'=>
          obtain⟨rfl,hr6⟩:=hr6;go_wp2_with fail;go_ret;exact⟨Hb7.out.trans hb6,by rw[Hv.out];exact⟨rfl,hr6⟩⟩
       · have hz:((k1:Int) == 0)=false:=by rw[beq_eq_false_iff_ne];omega
         have Hv:=hid (Hvv.out.trans (if_neg (by rw[←Hk.out];exact hl1)));clear hk hk0 hk1 hkk hl1;go_wp2_with (at_mapUpdate;refine zjl rfl _ _ _ rfl U s.ix hU3 x hxi hil rfl rfl rfl ?_;intro w5 hu5 hg5;have hS5:=HI.out.map hu5 hg5 rfl;have t2:=hS5.srow.cell 2 rfl;have y2:=hS5.srow.fz 2;have t0:=hS5.srow.cell 0 rfl;have y0:=hS5.srow.fz 0;have t1:=hS5.srow.cell 1 rfl;have y1:=hS5.srow.fz 1;have HS7:=hid (((hS5.setB 2 (.int .i64 (x:Int))).setB 0 (.int .u64 (k1:Int))).setB 1 (.int .i64 0));have Hb7:=hid ((((Hbc.out.grown hg5 Hbwc.out (fun k hk=>by injection hk with hk;omega)).setCell (p:=⟨B,2,none⟩) hB0 (.int .i64 (x:Int))).setCell (p:=⟨B,0,none⟩) hB0 (.int .u64 (k1:Int))).setCell (p:=⟨B,1,none⟩) hB0 (.int .i64 0));clear hu5 hg5 hS5);go_ret;refine⟨Hb7.out,?_⟩;rw[Hv.out];refine⟨rfl,SRows.wkr (lo0:=lo0) (K:=.slice (some ⟨gk,0,none⟩) n kc) (last:=(x:Int)) (touch:=s.tch) (s:={ s with l:=s.l++[(s.lo,s.hi)],ix:=s.ix++[x],left:=s.left - 1,turn:=0 }) ?_ Ht.out hR0 hU hC hB0 (fun y hy=>?_) (fun h=>?_) rfl⟩
         · have:=HS7.out;rw[show s.left - 1=k1 from by rw[Hkk.out,Hk.out]];simp only[cuC,List.getLast?_append,List.getLast?_singleton,Option.some_or];exact this
         · simp at hy;rw[hy]
         · exact absurd h (by simp)
end
section
structure Dc where
 st:Nat
 hd:Nat
 nx:Nat
 nn:Nat
 ns:Nat
 frm:Nat
 left:Nat
 ws:WS
 pl:List Nat
 last:List Nat
 hv:Nat
 tk:Nat
 fin:Nat
 vc:Nat
 vo:Nat
 out:List Kno
 sn:Nat
def dc0:Dc:=⟨0,0,0,0,0,0,0,ws0,[],[0,0,0,0],0,0,0,0,0,[],0⟩
def Dc.bad (s:Dc) (c o:Nat):Dc:={ s with st:=4,vc:=c,vo:=o }
def Dc.next (s:Dc):Dc:={ s with nx:=0,nn:=0,ns:=0,frm:=s.tk }
def Dc.void (s:Dc):Dc:=if s.left=0 then s.bad 5 s.frm else s
def Dc.more (s:Dc) (c:Nat):Dc:={ s with nx:=zu s.nx s.nn c,nn:=s.nn+1,ns:=zi s.nn c }
def zc5 (s:Dc) (c:Nat):Dc:=
 if c≠nth qw s.hd then { s with st:=4,vc:=if s.hd=4 then 13 else 12,vo:=s.tk - 1,hd:=s.hd+1 }
 else if s.hd=4 then ({ s with hd:=s.hd+1,st:=1 }:Dc).next else { s with hd:=s.hd+1 }
def zc6 (L:za) (s:Dc) (c:Nat):Dc:=
 match zi s.nn c with
 | 0=>s.more c
 | 1=>if max L.1 0<(zu s.nx s.nn c:Int) then ({ s.more c with sn:=s.sn+1 }:Dc).bad 7 s.frm
   else ({ s.more c with sn:=s.sn+1,st:=2,left:=zu s.nx s.nn c,ws:=ws0,pl:=[] }:Dc).next.void
 | _=>(s.more c).bad 6 s.frm
def Dc.took (s:Dc) (c:Nat):Dc:={ s with pl:=s.pl++[c],left:=s.left - 1 }
def Dc.put (s:Dc) (r:Except (Nat×Nat) WS):Dc:=
 match r with
 | .error e=>({ s with sn:=s.sn+1 }:Dc).next.bad e.1 e.2
 | .ok w=>if w.tag=4 then { ({ s with sn:=s.sn+1,ws:=w }:Dc).next with st:=3,hv:=0 }
   else ({ s with sn:=s.sn+1,ws:=w }:Dc).next.void
def zc7 (L:za) (s:Dc) (c:Nat):Dc:=
 match zi s.nn c with
 | 0=>((s.took c).more c).void
 | 1=>(s.took c).put (zr (s.tk+(s.left - 1)) L s.ws (zu s.nx s.nn c) s.frm s.tk)
 | _=>((s.took c).more c).bad 6 s.frm
def zeo (s:Dc) (c:Nat):Dc:=
 if s.hv<3 then { s with last:=s.last.set s.hv c,hv:=s.hv+1 }
 else if qo (sum s.pl)=s.last.set s.hv c then { s with last:=s.last.set s.hv c,hv:=s.hv+1,sn:=s.sn+1,out:=s.out++[zt s.ws.vs s.ws.l s.ws.ix],st:=0,hd:=0,fin:=s.tk,vc:=0,vo:=s.tk }
 else { s with last:=s.last.set s.hv c,hv:=s.hv+1,st:=4,vc:=14,vo:=s.tk - 4 }
def yp (s:Dc):Dc:={ s with tk:=s.tk+1,sn:=s.sn+1 }
def zep (L:za) (s:Dc) (c:Nat):Dc:=
 match s.st with
 | 0=>zc5 (yp s) c
 | 1=>zc6 L (yp s) c
 | 2=>zc7 L (yp s) c
 | _=>zeo (yp s) c
def zu5 (L:za) (s:Dc) (l:List Nat):Dc:=l.foldl (fun s c=>if s.st=4 then s else zep L s c) s
structure NumI (t:List Nat) (frm nx nn:Nat):Prop where
 len:t.length=frm+nn
 n:nn<10
 x:nx<18446744073709551616
 sc:∀r,zk (t.drop frm++r) 0 0=zk r nn nx
theorem NumI.start {t:List Nat} {f:Nat} (h:f=t.length):NumI t f 0 0:=⟨by omega,by omega,by omega,fun r=>by rw[List.drop_eq_nil_of_le (by omega)];rfl⟩
theorem NumI.at {t:List Nat} {f x n:Nat} (h:NumI t f x n) (c:Nat) (r:List Nat):zk ((t++c :: r).drop f) 0 0=if zi n c=2 then (2,0,n+1) else if zi n c=1 then (1,zu x n c,n+1) else zk r (n+1) (zu x n c):=by
 have:=h.len;rw[List.drop_append_of_le_length (by omega),h.sc]
 rfl
theorem NumI.more {t:List Nat} {f x n c:Nat} (h:NumI t f x n) (hs:zi n c=0):NumI (t++[c]) f (zu x n c) (n+1):=by
 refine⟨by have:=h.len;rw[List.length_append,List.length_singleton];omega,?_,zcb _ _ h.x,fun r=>?_⟩
 · have:=h.n;rcases(by omega:n<9∨n=9) with h | rfl
   · omega
   · exact(zhz c hs).elim
 · have:=h.len;rw[←List.drop_append_of_le_length (by rw[List.length_append];omega),List.append_assoc,List.singleton_append,h.at,hs,if_neg (by decide),if_neg (by decide)]
theorem NumI.wait {t:List Nat} {f x n:Nat} (h:NumI t f x n):zk (t.drop f) 0 0=(0,0,n):=by
 have:=h.sc [];rw[List.append_nil] at this;exact this
theorem NumI.tokW {t:List Nat} {f x n E:Nat} (h:NumI t f x n) (hE:t.length≤E):zq t E f=.error (if E=t.length then 5 else 0):=by
 unfold zq;rw[List.take_of_length_le hE,h.wait];by_cases he:E=t.length
 · rw[if_pos he,if_pos (by omega)];rfl
 · rw[if_neg he,if_neg (by omega)];rfl
theorem NumI.tokD {t:List Nat} {f x n E c:Nat} (h:NumI t f x n) (hE:t.length<E) (hs:zi n c=1) (u:List Nat):zq (t++[c]++u) E f=.ok (zu x n c,t.length+1):=by
 unfold zq;rw[List.append_assoc,List.singleton_append,List.take_append,List.take_of_length_le (Nat.le_of_lt hE)];obtain⟨k,hk⟩:∃k,E - t.length=k+1:=⟨E - t.length - 1,by omega⟩;rw[hk,List.take_succ_cons,h.at,hs,if_neg (by decide),if_pos rfl];simp only;rw[h.len,Nat.add_assoc]
theorem NumI.tokX {t:List Nat} {f x n E c:Nat} (h:NumI t f x n) (hE:t.length<E) (hs:zi n c=2) (u:List Nat):zq (t++[c]++u) E f=.error 6:=by
 unfold zq;rw[List.append_assoc,List.singleton_append,List.take_append,List.take_of_length_le (Nat.le_of_lt hE)];obtain⟨k,hk⟩:∃k,E - t.length=k+1:=⟨E - t.length - 1,by omega⟩;rw[hk,List.take_succ_cons,h.at,hs,if_pos rfl]
 rfl
structure HeadI (t:List Nat) (s:Dc):Prop where
 hd:s.hd<5
 len:t.length=s.fin+s.hd
 eq:∀i,i<s.hd→nth t (s.fin+i)=nth qw i
structure LenI (t:List Nat) (s:Dc):Prop where
 ns:s.ns=0
 hb:qg t s.fin=none
 frm:s.frm=s.fin+5
 num:NumI t s.frm s.nx s.nn
structure PayI (L:za) (t:List Nat) (s:Dc) (n s0:Nat):Prop where
 ns:s.ns=0
 head:yd t s.fin L.1=.ok (s0,n)
 len:s0+n=t.length+s.left
 left:0<s.left
 frm:s0≤s.frm
 num:NumI t s.frm s.nx s.nn
 pl:s.pl=t.drop s0
 rd:RdJ s.ws s.frm
 eq:∀u,j9 (zq (t++u) (s0+n)) (s0+n) L s.ws s.frm=yl (zq (t++u) (s0+n)) (s0+n) L s0
structure SumI (L:za) (t:List Nat) (s:Dc) (n s0:Nat):Prop where
 head:yd t s.fin L.1=.ok (s0,n)
 dec:yl (zq t (s0+n)) (s0+n) L s0=.ok (zt s.ws.vs s.ws.l s.ws.ix,s0+n)
 len:t.length=s0+n+s.hv
 hv:s.hv<4
 ll:s.last.length=4
 last:s.last.take s.hv=t.drop (s0+n)
 pl:s.pl=(t.drop s0).take n
 tag:s.ws.tag=4
 l64:yg s.ws.l
structure SI (L:za) (t:List Nat) (s:Dc) (ks:List Kno) (es:List Nat):Prop where
 tk:s.tk=t.length
 st:s.st≤4
 way:jz t L ks es 0 s.fin
 fin:s.fin≤t.length
 buf:(t.length:Int)≤s.fin+max L.1 0+19
 ll:s.last.length=4
 bad:s.st=4→zn t L s.fin=.error (s.vc,s.vo)∧s.vc≠0∧∃t' c,t=t'++[c]∧jb t' L ks es (0,s.fin)
 ver:s.st<4→s.vc=0∧s.vo=s.fin
 s0:s.st=0→HeadI t s
 s1:s.st=1→LenI t s
 s2:s.st=2→∃n s0,PayI L t s n s0
 s3:s.st=3→∃n s0,SumI L t s n s0
theorem zu6 (L:za):SI L [] dc0 [] []:=⟨rfl,by decide,rfl,by decide,by simp only[List.length_nil,dc0];omega,rfl,fun h=>by simp[dc0] at h,fun _=>⟨rfl,rfl⟩,fun _=>⟨by decide,rfl,fun i h=>by simp[dc0] at h⟩,fun h=>by simp[dc0] at h,fun h=>by simp[dc0] at h,fun h=>by simp[dc0] at h⟩
variable {L:za} {t:List Nat} {s:Dc} {ks:List Kno} {es:List Nat} {c:Nat}
theorem HeadI.wait (h:HeadI t s):zn t L s.fin=.error (0,s.fin):=by
 have hh:yd t s.fin L.1=.error (5,s.fin):=by
  unfold yd;rw[za3 (i:=s.hd) h.hd (fun j hj=>zbl (by have:=h.len;omega) (h.eq j hj)) (zcf (by have:=h.len;omega))]
 unfold zn;rw[hh]
 rfl
theorem LenI.wait (h:LenI t s):zn t L s.fin=.error (0,s.fin):=by
 have hh:yd t s.fin L.1=.error (5,s.fin):=by
  unfold yd;rw[h.hb];simp only;rw[←h.frm,h.num.wait]
  rfl
 unfold zn;rw[hh]
 rfl
theorem zag {T:zg} {E p:Nat} {w:WS} (hr:RdJ w p) {d:RR Kno} (he:j9 T E L w p=d):(∀c,T p=.error c→d=.error (c,p))∧∀x q,T p=.ok (x,q)→d=match zr E L w x p q with | .error e=>.error e | .ok w'=>j9 T E L w' q:=by
 rw[zfw _ _ _ _ _ hr.inv hr.tag] at he;refine⟨fun c hc=>?_,fun x q hc=>?_⟩
 · unfold nmP at he;rw[hc] at he;exact he.symm
 · unfold nmP at he;rw[hc] at he;exact he.symm
theorem zbh {l:List Nat} {p n s0:Nat} {e:Nat×Nat} (hh:yd l p L.1=.ok (s0,n)) (hd:yl (zq l (s0+n)) (s0+n) L s0=.error e):zn l L p=if e.1=0 then .error (0,p) else .error e:=by
 unfold zn;rw[hh];simp only;rw[hd]
theorem PayI.wait {n s0:Nat} (h:PayI L t s n s0):zn t L s.fin=.error (0,s.fin):=by
 have h1:=h.eq [];rw[List.append_nil] at h1;have h2:=(zag h.rd h1).1 0 (by rw[h.num.tokW (by have:=h.len;omega),if_neg (by have:=h.len;have:=h.left;omega)]);rw[zbh h.head h2]
 rfl
theorem SumI.wait {n s0:Nat} (h:SumI L t s n s0):zn t L s.fin=.error (0,s.fin):=by
 unfold zn;rw[h.head];simp only;rw[h.dec];simp only;rw[if_pos (by have:=h.len;have:=h.hv;omega)]
theorem SI.wait (h:SI L t s ks es) (h4:s.st<4):zn t L s.fin=.error (0,s.fin):=by
 rcases(by omega:s.st=0∨s.st=1∨s.st=2∨s.st=3) with e | e | e | e
 · exact(h.s0 e).wait
 · exact(h.s1 e).wait
 · obtain⟨n,s0,h2⟩:=h.s2 e;exact h2.wait
 · obtain⟨n,s0,h2⟩:=h.s3 e;exact h2.wait
theorem SI.pars (h:SI L t s ks es) (h4:s.st<4):jb t L ks es (0,s.fin):=⟨s.fin,h.way,h.wait h4⟩
theorem SI.parsX (h:SI L t s ks es) (h4:s.st=4):jb t L ks es (s.vc,s.vo):=⟨s.fin,h.way,(h.bad h4).1⟩
theorem SI.parsV (h:SI L t s ks es):jb t L ks es (s.vc,s.vo):=by
 by_cases h4:s.st=4
 · exact h.parsX h4
 · have:=h.st;obtain⟨e1,e2⟩:=h.ver (by omega);rw[e1,e2];exact h.pars (by omega)
theorem SI.room (hl:∀c∈t,c<256) (h:SI L t s ks es) (h4:s.st<4):(t.length:Int)+1≤s.fin+max L.1 0+19:=by
 rcases(by omega:s.st=0∨s.st=1∨s.st=2∨s.st=3) with e | e | e | e
 · have:=(h.s0 e).len;have:=(h.s0 e).hd;omega
 · have:=(h.s1 e).frm;have:=(h.s1 e).num.len;have:=(h.s1 e).num.n;omega
 · obtain⟨n,s0,h2⟩:=h.s2 e;have:=zbf hl h2.head;have:=h2.len;have:=h2.left;omega
 · obtain⟨n,s0,h2⟩:=h.s3 e;have:=zbf hl h2.head;have:=h2.len;have:=h2.hv;omega
theorem SI.to_bad (hl:∀c∈t,c<256) (h:SI L t s ks es) (h4:s.st<4) (s':Dc) (h1:s'.st=4) (h2:s'.fin=s.fin) (h3:s'.tk=t.length+1) (h5:s'.last.length=4) (he:zn (t++[c]) L s.fin=.error (s'.vc,s'.vo)) (hn:s'.vc≠0):SI L (t++[c]) s' ks es:=by
 have e1:(t++[c]).length=t.length+1:=by simp
 have hr:=h.room hl h4;exact⟨by rw[h3,e1],by omega,by rw[h2];exact zb5 _ h.way,by rw[h2,e1];have:=h.fin;omega,by rw[h2,e1];omega,h5,fun _=>⟨by rw[h2];exact he,hn,t,c,rfl,by rw[h2];exact h.pars h4⟩,fun h=>by omega,fun h=>by omega,fun h=>by omega,fun h=>by omega,fun h=>by omega⟩
theorem SI.to_run (hl:∀c∈t,c<256) (h:SI L t s ks es) (h4:s.st<4) (s':Dc) (h1:s'.st<4) (h2:s'.fin=s.fin) (h3:s'.tk=t.length+1) (h5:s'.last.length=4) (hv:s'.vc=s.vc∧s'.vo=s.vo) (k0:s'.st=0→HeadI (t++[c]) s') (k1:s'.st=1→LenI (t++[c]) s') (k2:s'.st=2→∃n s0,PayI L (t++[c]) s' n s0) (k3:s'.st=3→∃n s0,SumI L (t++[c]) s' n s0):SI L (t++[c]) s' ks es:=by
 have e1:(t++[c]).length=t.length+1:=by simp
 have hr:=h.room hl h4;exact⟨by rw[h3,e1],by omega,by rw[h2];exact zb5 _ h.way,by rw[h2,e1];have:=h.fin;omega,by rw[h2,e1];omega,h5,fun h=>by omega,fun _=>by rw[hv.1,hv.2,h2];exact h.ver h4,k0,k1,k2,k3⟩
theorem zlk {E:Nat} {w:WS} {x p q:Nat} {e:Nat×Nat} (hp:∀lh le r c,zm le lh w.inner x r=.error c→c≠0) (h:zr E L w x p q=.error e):e.1≠0:=by
 have fin:∀t e,qu E t q=.error e→e.1≠0:=fun t e h=>by
  unfold qu at h;split at h
  · cases h;simp
  · split at h
    · cases h;simp
    · cases h
 unfold zr at h;split at h
 · split at h
   · cases h;assumption
   · split at h <;> cases h
 · split at h
   · rename_i hi;cases h;exact hp _ _ _ _ hi
   · split at h
     · split at h
       · cases h;simp
       · split at h <;> cases h
     · cases h
 · split at h
   · cases h;assumption
   · split at h
     · exact fin _ _ h
     · cases h
 · split at h
   · split at h
     · cases h;simp
     · cases h
   · split at h
     · cases h
     · cases h;simp
   · split at h
     · cases h;simp
     · split at h
       · cases h;simp
       · split at h
         · exact fin _ _ h
         · cases h
 · cases h
theorem ztz {le lh:Int} {s:PS} {x rest c:Nat} (h:zm le lh s x rest=.error c):c≠0:=by
 unfold zm at h;split at h
 · split at h
   · cases h;assumption
   · split at h
     · cases h;decide
     · cases h
 · split at h
   · cases h;decide
   · cases h
 · cases h
 · split at h
   · cases h;assumption
   · cases h
 · split at h
   · cases h;decide
   · cases h
 · split at h
   · cases h
   · cases h;decide
theorem zt0 {l:List Nat} (u:List Nat) {E:Nat} (h:E≤l.length):zq (l++u) E=zq l E:=by
 funext p;unfold zq;rw[List.take_append_of_le_length h,if_pos h,if_pos (by rw[List.length_append];omega)]
theorem yy (t:List Nat) (c:Nat):(t++[c]).length=t.length+1:=by simp
theorem lt1 (hl:∀c∈t,c<256) (hc:c<256):∀x∈t++[c],x<256:=fun x hx=>by
 rcases List.mem_append.1 hx with h | h
 · exact hl x h
 · rw[List.mem_singleton] at h;subst h;exact hc
theorem zll {u:List Nat} {p s0 n:Nat} {m:Int} (h:yd t p m=.ok (s0,n)):yd (t++u) p m=.ok (s0,n):=by
 rcases zli t u p m with e | e
 · rw[h] at e;cases e
 · rw[e];exact h
theorem zt1 (t:List Nat) (c:Nat):nth (t++[c]) t.length=c:=by simp[nth]
theorem zt2 (hl:∀c∈t,c<256) (h:SI L t s ks es) (h0:s.st=0):SI L (t++[c]) (zc5 (yp s) c) ks es:=by
 have hI:=h.s0 h0;have h4:s.st<4:=by omega
 have hk:s.tk+1=t.length+1:=by rw[h.tk]
 have hat:∀j,j<s.hd→qq (t++[c]) s.fin j=none:=fun j hj=>zbl (by rw[yy];have:=hI.len;omega) (by rw[zgg (by have:=hI.len;omega)];exact hI.eq j hj)
 have hn:nth (t++[c]) (s.fin+s.hd)=c:=by rw[←hI.len];exact zt1 t c
 unfold zc5;by_cases hc:c=nth qw (yp s).hd
 · rw[if_neg (fun h=>h hc)];have hc':c=nth qw s.hd:=hc;by_cases h5:(yp s).hd=4
   · rw[if_pos h5];have h5':s.hd=4:=h5;refine h.to_run hl h4 _ (by show 1<4;omega) rfl hk h.ll ⟨rfl,rfl⟩ (fun h=>by cases h) (fun _=>⟨rfl,?_,?_,?_⟩) (fun h=>by cases h) (fun h=>by cases h)
     · show qg (t++[c]) s.fin=none;refine zhd fun j hj=>?_
       rcases(by omega:j<s.hd∨j=s.hd) with h | h
       · exact hat j h
       · subst h;exact zbl (by rw[yy];have:=hI.len;omega) (hn.trans hc')
     · show s.tk+1=s.fin+5;have:=hI.len;omega
     · exact NumI.start (by rw[yy];exact hk)
   · rw[if_neg h5];have h5':s.hd≠4:=h5;refine h.to_run hl h4 _ h4 rfl hk h.ll ⟨rfl,rfl⟩ (fun _=>⟨by show s.hd+1<5;have:=hI.hd;omega,by show _=s.fin+(s.hd+1);rw[yy,hI.len];rfl,fun i hi=>?_⟩) (fun h=>by rw[show s.st=1 from h] at h0;cases h0) (fun h=>by rw[show s.st=2 from h] at h0;cases h0) (fun h=>by rw[show s.st=3 from h] at h0;cases h0);have hi:i<s.hd+1:=hi;show nth (t++[c]) (s.fin+i)=_;rcases(by omega:i<s.hd∨i=s.hd) with h | h
     · rw[zgg (by have:=hI.len;omega)];exact hI.eq i h
     · subst h;exact hn.trans hc'
 · rw[if_pos hc];have hc':c≠nth qw s.hd:=hc;refine h.to_bad hl h4 _ rfl rfl hk h.ll ?_ (by show (if s.hd=4 then 13 else 12)≠0;split <;> decide);have hb:=za3 (i:=s.hd) hI.hd hat (ze4 (by rw[yy];have:=hI.len;omega) (by rw[hn];exact hc'))
   have hh:yd (t++[c]) s.fin L.1=.error ((if s.hd=4 then 13 else 12),s.fin+s.hd):=by
    unfold yd;rw[hb]
   unfold zn;rw[hh];simp only;rw[if_neg (by split <;> decide)];show _=Except.error ((if s.hd=4 then 13 else 12),s.tk+1 - 1);rw[h.tk,hI.len]
   rfl
theorem zt3 (hl:∀c∈t,c<256) (hc:c<256) (h:SI L t s ks es) (h0:s.st=1):SI L (t++[c]) (zc6 L (yp s) c) ks es:=by
 have hI:=h.s1 h0;have h4:s.st<4:=by omega
 have hk:s.tk+1=t.length+1:=by rw[h.tk]
 have hb:qg (t++[c]) s.fin=none:=by
  rcases zgf (zlh t [c] s.fin) [0,1,2,3,4] with e | e
  · have:=hI.hb.symm.trans (show qg t s.fin=_ from e);cases this
  · exact(show qg (t++[c]) s.fin=qg t s.fin from e).trans hI.hb
 have hs:=hI.num.at c [];rw[hI.frm] at hs;have hnl:=hI.num.len;have hne:∀k:Nat,s.st≠1→False:=fun k h=>h h0
 unfold zc6;rcases zfd s.nn c with hst | hst | hst
 · rw[show zi (yp s).nn c=0 from hst];refine h.to_run hl h4 _ h4 rfl hk h.ll ⟨rfl,rfl⟩ (fun h=>by rw[show s.st=0 from h] at h0;cases h0) (fun _=>⟨hst,hb,hI.frm,hI.num.more hst⟩) (fun h=>by rw[show s.st=2 from h] at h0;cases h0) (fun h=>by rw[show s.st=3 from h] at h0;cases h0)
 · rw[show zi (yp s).nn c=1 from hst];rw[hst,if_neg (by decide),if_pos rfl] at hs;show SI L (t++[c]) (if max L.1 0<(zu s.nx s.nn c:Int) then _ else _) ks es;by_cases hm:max L.1 0<(zu s.nx s.nn c:Int)
   · rw[if_pos hm];refine h.to_bad hl h4 _ rfl rfl hk h.ll ?_ (by show 7≠0;omega)
     have hh:yd (t++[c]) s.fin L.1=.error (7,s.fin+5):=by
      unfold yd;rw[hb];simp only;rw[hs];simp only;rw[if_pos hm]
     unfold zn;rw[hh];show Except.error (7,s.fin+5)=Except.error (7,s.frm);rw[hI.frm]
   · rw[if_neg hm]
     have hh:yd (t++[c]) s.fin L.1=.ok (t.length+1,zu s.nx s.nn c):=by
      unfold yd;rw[hb];simp only;rw[hs];simp only;rw[if_neg hm];rw[show s.fin+5+(s.nn+1)=t.length+1 by have:=hI.frm;omega]
     unfold Dc.void;split
     · rename_i hx;have hx:zu s.nx s.nn c=0:=hx;refine h.to_bad hl h4 _ rfl rfl hk h.ll ?_ (by show 5≠0;omega);rw[hx] at hh
       have hd:=(zag (T:=zq (t++[c]) (t.length+1+0)) (E:=t.length+1+0) (p:=t.length+1) (RdJ.start.mono (Nat.zero_le _)) (L:=L) rfl).1 5 (by
        rw[(NumI.start (t:=t++[c]) (f:=t.length+1) (yy t c).symm).tokW (by rw[yy];omega),if_pos (by rw[yy])])
       rw[zbh hh hd];show Except.error (5,t.length+1)=Except.error (5,s.tk+1);rw[hk]
     · rename_i hx;have hx:¬zu s.nx s.nn c=0:=hx;refine h.to_run hl h4 _ (by show 2<4;omega) rfl hk h.ll ⟨rfl,rfl⟩ (fun h=>by cases h) (fun h=>by cases h) (fun _=>⟨zu s.nx s.nn c,t.length+1,rfl,hh,by rw[yy];rfl,by show 0<zu s.nx s.nn c;omega,by show _≤s.tk+1;omega,NumI.start (by rw[yy];exact hk),by rw[List.drop_eq_nil_of_le (by rw[yy];exact Nat.le_refl _)];rfl,RdJ.start.mono (Nat.zero_le _),fun u=>?_⟩) (fun h=>by cases h);show j9 _ _ L ws0 (s.tk+1)=_;rw[hk]
       rfl
 · rw[show zi (yp s).nn c=2 from hst];rw[hst,if_pos rfl] at hs;refine h.to_bad hl h4 _ rfl rfl hk h.ll ?_ (by show 6≠0;decide)
   have hh:yd (t++[c]) s.fin L.1=.error (6,s.fin+5):=by
    unfold yd;rw[hb];simp only;rw[hs]
    rfl
   unfold zn;rw[hh];show Except.error (6,s.fin+5)=Except.error (6,s.frm);rw[hI.frm]
theorem zt4 (hl:∀c∈t,c<256) (hc:c<256) (h:SI L t s ks es) (h0:s.st=2):SI L (t++[c]) (zc7 L (yp s) c) ks es:=by
 obtain⟨n,s0,hI⟩:=h.s2 h0;have h4:s.st<4:=by omega
 have hk:s.tk+1=t.length+1:=by rw[h.tk]
 have hlt:=lt1 hl hc;have hh:=zll (u:=[c]) hI.head;have hho:=zbf hl hI.head;have hE:=hI.len;have hL:=hI.left;have hnl:=hI.num.len;have hpl:s.pl++[c]=(t++[c]).drop s0:=by rw[hI.pl,List.drop_append_of_le_length hho.2.1]
 have h1:=hI.eq [c];unfold zc7;rcases zfd s.nn c with hst | hst | hst
 · rw[show zi (yp s).nn c=0 from hst];show SI L (t++[c]) (Dc.void _) ks es;unfold Dc.void;have hN:=hI.num.more hst;split
   · rename_i hx;have hx:s.left - 1=0:=hx;refine h.to_bad hl h4 _ rfl rfl hk h.ll ?_ (by show 5≠0;omega);have hd:=(zag hI.rd h1).1 5 (by rw[hN.tokW (by rw[yy];omega),if_pos (by rw[yy];omega)]);rw[zbh hh hd]
     rfl
   · rename_i hx;have hx:¬s.left - 1=0:=hx;exact h.to_run hl h4 _ h4 rfl hk h.ll ⟨rfl,rfl⟩ (fun h=>by rw[show s.st=0 from h] at h0;cases h0) (fun h=>by rw[show s.st=1 from h] at h0;cases h0) (fun _=>⟨n,s0,hst,hh,by show _=_+(s.left - 1);rw[yy];omega,by show 0<s.left - 1;omega,hI.frm,hN,hpl,hI.rd,fun u=>by rw[List.append_assoc];exact hI.eq _⟩) (fun h=>by rw[show s.st=3 from h] at h0;cases h0)
 · rw[show zi (yp s).nn c=1 from hst];show SI L (t++[c]) (((yp s).took c).put (zr (s.tk+1+(s.left - 1)) L s.ws (zu s.nx s.nn c) s.frm (s.tk+1))) ks es;rw[show s.tk+1+(s.left - 1)=s0+n by rw[h.tk];omega,hk];have htk:=hI.num.tokD (E:=s0+n) (by omega) hst;have hxl:=zcb s.nn c hI.num.x;have key:=fun u=>(zag hI.rd (d:=yl (zq (t++[c]++u) (s0+n)) (s0+n) L s0) (by have:=hI.eq (c :: u);rw[←List.singleton_append,←List.append_assoc] at this;exact this)).2 _ _ (htk u)
   have key0:=key [];rw[List.append_nil] at key0
   cases hw:zr (s0+n) L s.ws (zu s.nx s.nn c) s.frm (t.length+1) with
   | error e=>
    have hec:=zlk (fun lh le r c=>ztz) hw;rw[hw] at key0;refine h.to_bad hl h4 _ rfl rfl hk h.ll ?_ hec;rw[zbh hh key0,if_neg hec]
    rfl
   | ok w=>
    rw[hw] at key0;simp only at key0;unfold Dc.put;simp only;by_cases h6:w.tag=4
    · rw[if_pos h6];have hf:=zf2 hI.rd.fit hI.rd.inv hI.rd.tag hxl (show s.frm<t.length+1 by omega) hw;rw[show j9 (zq (t++[c]) (s0+n)) (s0+n) L w (t.length+1)=.ok (zt w.vs w.l w.ix,t.length+1) by unfold j9;simp only[h6]] at key0;obtain⟨p1,p2,-⟩:=zlf hlt key0;rw[yy] at p2;have hpn:(t++[c]).length=s0+n:=by rw[yy];exact p1
      exact h.to_run hl h4 _ (by show 3<4;omega) rfl hk h.ll ⟨rfl,rfl⟩ (fun h=>by cases h) (fun h=>by cases h) (fun h=>by cases h) (fun _=>⟨n,s0,hh,by rw[key0,p1];rfl,by show _=s0+n+0;omega,by show 0<4;decide,h.ll,by rw[List.drop_eq_nil_of_le (by omega)];rfl,by
       show s.pl++[c]=_;rw[hpl,List.take_of_length_le (by rw[List.length_drop];omega)],h6,hf.l⟩)
    · rw[if_neg h6];have htag:=(zd6 hI.rd.inv hI.rd.tag hw).tag;have hJ:=hI.rd.next hxl (show s.frm<t.length+1 by omega) hw (by omega)
      unfold Dc.void;split
      · rename_i hx;have hx:s.left - 1=0:=hx;refine h.to_bad hl h4 _ rfl rfl hk h.ll ?_ (by show 5≠0;omega);have hd:=(zag hJ key0.symm).1 5 (by rw[(NumI.start (t:=t++[c]) (f:=t.length+1) (yy t c).symm).tokW (by rw[yy];omega),if_pos (by rw[yy];omega)]);rw[zbh hh hd];show Except.error (5,t.length+1)=Except.error (5,s.tk+1);rw[hk]
      · rename_i hx;have hx:¬s.left - 1=0:=hx;refine h.to_run hl h4 _ h4 rfl hk h.ll ⟨rfl,rfl⟩ (fun h=>by rw[show s.st=0 from h] at h0;cases h0) (fun h=>by rw[show s.st=1 from h] at h0;cases h0) (fun _=>⟨n,s0,rfl,hh,by show _=_+(s.left - 1);rw[yy];omega,by show 0<s.left - 1;omega,by show s0≤s.tk+1;have:=hI.frm;omega,NumI.start (by rw[yy];exact hk),hpl,by show RdJ w (s.tk+1);rw[hk];exact hJ,fun u=>?_⟩) (fun h=>by rw[show s.st=3 from h] at h0;cases h0);show j9 _ _ L w (s.tk+1)=_;have:=key u;rw[hw] at this;rw[hk];exact this.symm
 · rw[show zi (yp s).nn c=2 from hst];refine h.to_bad hl h4 _ rfl rfl hk h.ll ?_ (by show 6≠0;decide);have htk:=hI.num.tokX (E:=s0+n) (by omega) hst [];rw[List.append_nil] at htk;have hd:=(zag hI.rd h1).1 6 htk;rw[zbh hh hd]
   rfl
theorem zt5 (hl:∀c∈t,c<256) (hc:c<256) (h:SI L t s ks es) (h0:s.st=3):∃ms,SI L (t++[c]) (zeo (yp s) c) (ks++ms) (es++ms.map fun _=>t.length+1)∧(zeo (yp s) c).out=s.out++ms:=by
 obtain⟨n,s0,hI⟩:=h.s3 h0;have h4:s.st<4:=by omega
 have hk:s.tk+1=t.length+1:=by rw[h.tk]
 have hlt:=lt1 hl hc;have hh:=zll (u:=[c]) hI.head;have hho:=zbf hl hI.head;have hlen:=hI.len;have hhv:=hI.hv;have hd:yl (zq (t++[c]) (s0+n)) (s0+n) L s0=.ok (zt s.ws.vs s.ws.l s.ws.ix,s0+n):=by rw[zt0 _ (by omega)];exact hI.dec
 have hpl:s.pl=((t++[c]).drop s0).take n:=by rw[hI.pl,List.drop_append_of_le_length hho.2.1,List.take_append_of_le_length (by rw[List.length_drop];omega)]
 have hla:(s.last.set s.hv c).take (s.hv+1)=(t++[c]).drop (s0+n):=by
  rw[List.drop_append_of_le_length (by omega),←hI.last,List.take_add_one,List.take_set_of_le (Nat.le_refl _),List.getElem?_set_self (by rw[hI.ll];exact hhv)]
  rfl
 have hll:(s.last.set s.hv c).length=4:=by rw[List.length_set];exact hI.ll
 unfold zeo;by_cases h3:s.hv<3
 · rw[if_pos (show (yp s).hv<3 from h3)];refine⟨[],?_,(List.append_nil _).symm⟩;rw[List.append_nil,List.map_nil,List.append_nil];exact h.to_run hl h4 _ h4 rfl hk hll ⟨rfl,rfl⟩ (fun h=>by rw[show s.st=0 from h] at h0;cases h0) (fun h=>by rw[show s.st=1 from h] at h0;cases h0) (fun h=>by rw[show s.st=2 from h] at h0;cases h0) (fun _=>⟨n,s0,hh,hd,by rw[yy];show _=s0+n+(s.hv+1);omega,by show s.hv+1<4;omega,hll,hla,hpl,hI.tag,hI.l64⟩)
 · rw[if_neg (show ¬(yp s).hv<3 from h3)];have e3:s.hv=3:=by omega
   have hla4:s.last.set s.hv c=((t++[c]).drop (s0+n)).take 4:=by
    rw[←hla,e3,List.take_take,List.take_of_length_le (by rw[List.length_set,hI.ll];decide)]
   have hone:zn (t++[c]) L s.fin=if qo (sum s.pl)=s.last.set s.hv c then .ok (zt s.ws.vs s.ws.l s.ws.ix,t.length+1) else .error (14,t.length+1 - 4):=by
    unfold zn;rw[hh];simp only;rw[hd];simp only;rw[if_neg (by rw[yy];omega),←hpl,←hla4];rw[show s0+n+4=t.length+1 by omega,show t.length+1 - 4=s0+n by omega]
   by_cases hs:qo (sum s.pl)=s.last.set s.hv c
   · rw[if_pos (show qo (sum (yp s).pl)=(yp s).last.set (yp s).hv c from hs)];rw[if_pos hs] at hone;refine⟨[zt s.ws.vs s.ws.l s.ws.ix],⟨by rw[yy];exact hk,Nat.zero_le 4,?_,by rw[yy];exact Nat.le_of_eq hk,?_,hll,(fun h=>by cases h),(fun _=>⟨rfl,rfl⟩),(fun _=>⟨by show 0<5;decide,by rw[yy];exact hk.symm,fun i hi=>absurd hi (Nat.not_lt_zero _)⟩),(fun h=>by cases h),(fun h=>by cases h),(fun h=>by cases h)⟩,rfl⟩
     · show jz _ _ _ _ _ (s.tk+1);rw[hk];exact zgc (zb5 _ h.way) hone
     · rw[yy];show ((t.length+1:Nat):Int)≤((s.tk+1:Nat):Int)+max L.1 0+19;omega
   · rw[if_neg (show ¬qo (sum (yp s).pl)=(yp s).last.set (yp s).hv c from hs)];rw[if_neg hs] at hone;refine⟨[],?_,(List.append_nil _).symm⟩;rw[List.append_nil,List.map_nil,List.append_nil];refine h.to_bad hl h4 _ rfl rfl hk hll ?_ (by show 14≠0;decide);rw[hone];show Except.error (14,t.length+1 - 4)=Except.error (14,s.tk+1 - 4);rw[hk]
theorem zgh (s:Dc):s.void.out=s.out:=by unfold Dc.void;split <;> rfl
theorem SI.step (hl:∀c∈t,c<256) (hc:c<256) (h:SI L t s ks es) (h4:s.st<4):∃ms,SI L (t++[c]) (zep L s c) (ks++ms) (es++ms.map fun _=>t.length+1)∧(zep L s c).out=s.out++ms:=by
 have none:∀d:Dc,SI L (t++[c]) d ks es→d.out=s.out→∃ms,SI L (t++[c]) d (ks++ms) (es++ms.map fun _=>t.length+1)∧d.out=s.out++ms:=fun d h e=>⟨[],by rw[List.append_nil,List.map_nil,List.append_nil];exact h,by rw[e,List.append_nil]⟩
 unfold zep;rcases(by omega:s.st=0∨s.st=1∨s.st=2∨s.st=3) with e | e | e | e
 · rw[e];refine none _ (zt2 hl h e) ?_;show (zc5 (yp s) c).out=s.out;unfold zc5;split
   · rfl
   · split <;> rfl
 · rw[e];refine none _ (zt3 hl hc h e) ?_;show (zc6 L (yp s) c).out=s.out;unfold zc6;split
   · rfl
   · split
     · rfl
     · rw[zgh];rfl
   · rfl
 · rw[e];refine none _ (zt4 hl hc h e) ?_;show (zc7 L (yp s) c).out=s.out;unfold zc7;split
   · rw[zgh];rfl
   · unfold Dc.put;split
     · rfl
     · split
       · rfl
       · rw[zgh];rfl
   · rfl
 · rw[e];exact zt5 hl hc h e
end
section
abbrev exO:List Nat:=vr [0,0]++vr [0,0]
theorem zt6:vk (fun _=>[0,0]) 1=vr [0,0]:=rfl
theorem zlm:vk (fun _=>[0,0]) 2=exO:=rfl
theorem zln:exO.length=24:=by decide +kernel
set_option maxRecDepth 100000 in
theorem zt7:zn exO unl 0=.ok ([],12):=by kernel_rfl
set_option maxRecDepth 100000 in
theorem zt8:zn exO unl 12=.ok ([],24):=by kernel_rfl
set_option maxRecDepth 100000 in
theorem zt9:zn exO unl 24=.error (0,24):=by kernel_rfl
set_option maxRecDepth 100000 in
theorem zua:zn (exO.take 23) unl 0=.ok ([],12):=by kernel_rfl
set_option maxRecDepth 100000 in
theorem zub:zn (exO.take 23) unl 12=.error (0,12):=by kernel_rfl
theorem zuc:jb exO unl [[],[]] [12,24] (0,24):=⟨24,⟨zt7,zt8,rfl⟩,zt9⟩
theorem zud:jb (exO.take 23) unl [[]] [12] (0,12):=⟨12,⟨zua,rfl⟩,zub⟩
