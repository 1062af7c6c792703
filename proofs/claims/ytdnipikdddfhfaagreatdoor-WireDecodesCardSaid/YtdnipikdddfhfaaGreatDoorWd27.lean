/- Part 27. -/
import Derived.Test.YtdnipikdddfhfaaGreatDoorWd26
set_option linter.unusedVariables false
set_option maxHeartbeats 16000000
namespace Go.Proofs.YtdnipikdddfhfaaGreatDoor
open Lib (hid)
section
open Go.RowKit
attribute [local go_sem] zad
theorem z23 (L:zg) (w:World):Calls Tryz.prog 145 #[lmV L] w fun e w'=>e=.returned (.pointer (some ⟨w.heap.size+1,0,none⟩))∧PkR w' w.heap.size (w.heap.size+1) L (pkF (w.heap.size+1) 0) ps0∧Below w.heap.size w w':=by
 unfold lmV;go_enter Tryz.func145,Tryz.ntmps145;go_wp2_with fail;go_ret;refine⟨rfl,⟨by omega,.slice none 0 0,.pointer none,?_,rfl⟩,((Below.refl _ _).alloc (Nat.le_refl _) _).alloc (by simp) _⟩;have:=ju (w.alloc (.cells #[.int .i64 L.1,.int .i64 L.2.1,.int .i64 L.2.2.1,.int .i64 L.2.2.2.1,.int .i64 L.2.2.2.2] 24)) 282 (pkC L (pkF (w.heap.size+1) 0) (.slice none 0 0) 0 0 (.pointer none));rw[World.size_alloc] at this;exact this
theorem zic (g ge n cap:Nat) (w:World) (hq:w.cell? ⟨g,7,none⟩=some (.slice (some ⟨ge,0,none⟩) (n+1) cap)) (hn:n≤1000000000000):
 Calls Tryz.prog 272 #[.pointer (some ⟨g,0,none⟩)] w fun e w'=>e=.returned (.pointer (some ⟨ge,n*3,none⟩))∧∃k,w'=w.drewN k:=by
 go_enter Tryz.func272,Tryz.ntmps272;go_wp2;go_quiet (fail);go_wp2;go_ret;exact⟨rfl,_,rfl⟩
set_option maxRecDepth 20000 in
theorem z24 (base g:Nat) (L:zg) (nx:Value) (s:PS) (x rest:Nat) (w:World) (h:PkR w base g L nx s) (ht:s.tag=0) (hL:LimsI L) (hx:x<18446744073709551616) (hr:rest<9223372036854775808):
 Calls Tryz.prog 189 #[.pointer (some ⟨g,0,none⟩),.int .u64 (x:Int),.int .i64 (rest:Int)] w (PkS w base g L (qa L.2.2.1 L.2.2.2.1 s x rest)):=by
 obtain⟨tag,v,rep,mx,hh,ents,hls,lo⟩:=s;simp only at ht;subst ht;obtain⟨hg,V,cu,hR,hB⟩:=h;have hV:V=.slice none 0 0:=hB;subst hV;have HL:=hid (zrl x L.2.2.1 rest w hx hL.c hr);have q2:=hR.cell 2 rfl;have q8:=hR.cell 8 rfl;have z8:=hR.fz 8;have HR:=hid hR;have Hg:=hid (show base≤w.heap.size by have:=hR.lt;omega);clear hB;by_cases hc:zv x L.2.2.1 rest=0
 · rw[hc] at HL;have Hc:=hid hc;clear hc hx hr;by_cases hx0:x=0
   · subst hx0
     have Hp:=hid (show qa L.2.2.1 L.2.2.2.1 ⟨0,v,rep,mx,hh,ents,hls,lo⟩ 0 rest=.error 9 from by
      show (if zv 0 L.2.2.1 rest≠0 then _ else _)=_;rw[if_neg (fun h=>h Hc.out),if_pos rfl])
     rw[Hp.out];clear hR;go_enter Tryz.func189,Tryz.ntmps189;go_wp2_with fail;refine HL.out.mono ?_;rintro e w' ⟨rfl,rfl⟩;simp only[ze6,if_true];go_wp2_with fail;go_ret2;exact⟨Below.refl _ _,rfl,_,HR.out,rfl⟩
   · have Hp:=hid (show qa L.2.2.1 L.2.2.2.1 ⟨0,v,rep,mx,hh,ents,hls,lo⟩ x rest=.ok ⟨1,[],rep,mx,hh,x,hls,lo⟩ from by
      show (if zv x L.2.2.1 rest≠0 then _ else _)=_;rw[if_neg (fun h=>h Hc.out),if_neg hx0])
     rw[Hp.out];have HS:=hid (show Row (w.setCell ⟨g,8,none⟩ (.int .u64 (x:Int))) g 282 (pkC L nx (.slice none 0 0) x hls cu) from hR.set 8 _);clear hR;go_enter Tryz.func189,Tryz.ntmps189;go_wp2_with fail;refine HL.out.mono ?_;rintro e w' ⟨rfl,rfl⟩;simp only[ze6,if_true];go_wp2_with fail;go_ret2;exact⟨(Below.refl _ _).setCell (p:=⟨g,8,none⟩) hg _,nx,rfl,hg,_,cu,HS.out,zjz _ _⟩
 · have Hp:=hid (show qa L.2.2.1 L.2.2.2.1 ⟨0,v,rep,mx,hh,ents,hls,lo⟩ x rest=.error (zv x L.2.2.1 rest) from by
    show (if zv x L.2.2.1 rest≠0 then _ else _)=_;rw[if_pos hc])
   rw[Hp.out];have hcv:ze6 (zv x L.2.2.1 rest)=.iface 35 (.int .i64 ((zv x L.2.2.1 rest:Nat):Int)):=if_neg hc;rw[hcv] at HL;clear hc hx hr hR hcv;generalize zv x L.2.2.1 rest=c at*;go_enter Tryz.func189,Tryz.ntmps189;go_wp2_with fail;refine HL.out.mono ?_;rintro e w' ⟨rfl,rfl⟩;go_wp2_with fail;go_ret2;exact⟨Below.refl _ _,rfl,_,HR.out,rfl⟩
set_option maxRecDepth 20000 in
theorem z26 (base g:Nat) (L:zg) (nx:Value) (s:PS) (x rest:Nat) (w:World) (h:PkR w base g L nx s) (ht:s.tag=2) (hl:s.v.length≤1000000000000):
 Calls Tryz.prog 260 #[.pointer (some ⟨g,0,none⟩),.int .u64 (x:Int),.int .i64 (rest:Int)] w (PkS w base g L (qa L.2.2.1 L.2.2.2.1 s x rest)):=by
 obtain⟨tag,v,rep,mx,hh,ents,hls,lo⟩:=s;simp only at ht hl;subst ht;obtain⟨hg,V,cu,hR,hB⟩:=h;have hE:EntO w base V v rep 0 []:=hB;obtain⟨ge,cap,rfl,hge,hgl,⟨C,fr,hrow⟩,c0,c1,hf,-⟩:=hE.at
 have HE:=hid (fun k=>(hE.later (zy (Below.refl _ _) k)).max x);have q7:=hR.cell 7 rfl;have HP:=hid (zic g ge v.length cap w q7 hl);have HR:=hid hR
 have Hne:=hid (show g≠ge from fun e=>by
  subst e;unfold Row at hR;rw[hrow] at hR;injection hR with hR;injection hR with _ hR _;cases hR)
 have Hp:=hid (show qa L.2.2.1 L.2.2.2.1 ⟨2,v,rep,mx,hh,ents,hls,lo⟩ x rest=.ok ⟨3,v,rep,x,hh,ents,hls,lo⟩ from rfl);rw[Hp.out];have c1':∀k,(w.drewN k).cell? ⟨ge,v.length*3+1,none⟩=some (.int .u64 0):=fun k=>c1
 have f1:∀k,(w.drewN k).frozen? ⟨ge,v.length*3+1,none⟩=false:=fun k=>hf _
 clear hE hB hrow c0 c1 hf hR q7;go_enter Tryz.func260,Tryz.ntmps260;go_wp2_with fail;refine HP.out.mono ?_;rintro e w' ⟨rfl,k,rfl⟩;go_wp2_with fail;go_ret2;exact⟨(show Below base w (w.drewN k) from zy (Below.refl _ _) k).setCell (p:=⟨ge,v.length*3+1,none⟩) hge _,nx,rfl,hg,_,cu,(show Row (w.drewN k) _ _ _ from HR.out).other (a:=⟨ge,v.length*3+1,none⟩) Hne.out _,HE.out k⟩
end
section
open Go.RowKit
attribute [local go_sem] zad
def wkC (L:zg) (part K:Value) (U C:Nat) (err:Value):List Value:=
 [.int .i64 L.1,.int .i64 L.2.1,.int .i64 L.2.2.1,.int .i64 L.2.2.2.1,.int .i64 L.2.2.2.2,part,K,.map (some U),.pointer (some ⟨C,0,none⟩),err]
def zef:Value:=.iface 131 (.agg #[])
def vcC (left:Nat) (frm:Int) (ip:Value):List Value:=[.int .u64 (left:Int),.int .i64 frm,ip]
def sgC (left turn:Nat) (last:Int) (touch:Bool):List Value:=[.int .u64 (left:Int),.int .i64 (turn:Int),.int .i64 last,.bool touch]
def VecAt (w:World) (base R:Nat) (L:zg) (K:Value) (U C B:Nat) (s:WS):Prop:=
 (s.inner=ps0∧(∃ip,Row w B 199 (vcC s.left (-1) ip))∧KV w base K s.vs)∨
 (1≤s.inner.tag∧∃P pb wb,Row w B 199 (vcC s.left (s.frm:Int) (.pointer (some ⟨P,0,none⟩)))∧KV wb base K s.vs∧Steady 0 zai wb w∧wb.heap.size≤pb∧base≤pb∧R<pb∧U<pb∧C<pb∧B<pb∧PkR w pb P L (pkF P s.inner.tag) s.inner)
def cuC (C lo0:Nat) (s:WS):List Value:=match s.turn with | 0=>jj C 0 lo0 s.l.getLast? false | 1=>jj C 0 s.lo s.l.getLast? true | _=>jj C 0 lo0 (some (s.lo,s.hi)) false
def z27 (w:World) (C B:Nat) (s:WS):Prop:=
 ∃(last:Int) (touch:Bool) (lo0:Nat),Row w B 204 (sgC s.left s.turn last touch)∧(∀x,s.ix.getLast?=some x→last=(x:Int))∧(1≤s.turn→touch=s.tch)∧
  Row w C 193 (cuC C lo0 s)
def WkB (w:World) (base R:Nat) (L:zg) (s:WS) (part K:Value) (U C:Nat):Prop:=
 match s.tag with
 | 0=>part=.iface 123 (.agg #[])∧KV w base K s.vs∧Row w C 193 (jj C 0 0 none false)
 | 1=>∃B,part=.iface 196 (.pointer (some ⟨B,0,none⟩))∧base≤B∧Row w C 193 (jj C 0 0 none false)∧VecAt w base R L K U C B s
 | 2=>part=.iface 200 (.agg #[])∧KV w base K s.vs∧Row w C 193 (jj C 0 0 none false)
 | 3=>∃B,part=.iface 202 (.pointer (some ⟨B,0,none⟩))∧base≤B∧SegM w base K s.vs s.l s.ix∧z27 w C B s
 | _=>part=zef∧SegM w base K s.vs s.l s.ix
def WkR (w:World) (base R:Nat) (L:zg) (s:WS):Prop:=
 base≤R∧∃part K U C,base≤U∧base≤C∧Row w R 130 (wkC L part K U C .nilIface)∧UsedM w U s.ix∧WkB w base R L s part K U C
def zaz (c o:Nat):Value:=.iface 112 (.agg #[.int .i64 (c:Int),.int .i64 (o:Int)])
theorem z29 {c o:Nat} (h:c≠0):yt (zem (c:Int) (o:Int))=zaz c o:=by
 unfold zem;rw[if_neg (by omega)]
 rfl
def WkS (w:World) (base R:Nat) (L:zg) (r:Except (Nat×Nat) WS) (e:Ending) (w':World):Prop:=
 Below base w w'∧match r with
 | .error x=>e=.returned (zaz x.1 x.2)∧∃C,Row w' R 130 C∧C.length=10
 | .ok s'=>e=.returned .nilIface∧WkR w' base R L s'
theorem za9 {c o:Nat} (h:c≠0) (w:World):Calls Tryz.prog 82 #[.int .i64 (c:Int),.int .i64 (o:Int)] w fun e w'=>e=.returned (zaz c o)∧w=w':=
 (zby (c:Int) (o:Int) w).mono fun e w' ⟨h1,h2⟩=>⟨by rw[h1,z29 h],h2⟩
theorem zr4 (x:Nat) (lim:Int) (rest:Nat) (w:World) (hx:x<18446744073709551616) (hl:I64 lim) (hr:rest<9223372036854775808):
 Calls Tryz.prog 110 #[.int .u64 (x:Int),.int .i64 lim,.int .i64 (rest:Int)] w fun e w'=>e=.returned (.int .i64 ((zv x lim rest:Nat):Int))∧w=w':=by
 have hc:=zrk x lim rest;obtain⟨l1,l2⟩:=hl;generalize zv x lim rest=c at*;have Hx:=hid hx;clear hx;by_cases hneg:lim<0
 · have e0:max lim 0=0:=by omega
   rw[e0] at hc;clear e0;rcases hc with ⟨h1,rfl⟩ | ⟨h1,h2,rfl⟩ | ⟨h1,h2,rfl⟩
   · have h1':0<x:=by omega
     clear h1;go_enter Tryz.func110,Tryz.ntmps110;go_wp2_with fail;go_ret;exact⟨rfl,rfl⟩
   · have h1':x=0:=by omega
     omega
   · obtain rfl:x=0:=by omega
     go_enter Tryz.func110,Tryz.ntmps110;go_wp2_with fail;go_ret;exact⟨rfl,rfl⟩
 · obtain⟨m,rfl⟩:=Int.eq_ofNat_of_zero_le (show 0≤lim by omega);have e0:max (m:Int) 0=(m:Int):=by omega
   rw[e0] at hc;clear e0;rcases hc with ⟨h1,rfl⟩ | ⟨h1,h2,rfl⟩ | ⟨h1,h2,rfl⟩
   · have h1':m<x:=by omega
     clear h1;go_enter Tryz.func110,Tryz.ntmps110;go_wp2_with fail;go_ret;exact⟨rfl,rfl⟩
   · have h1':¬m<x:=by omega
     clear h1;go_enter Tryz.func110,Tryz.ntmps110;go_wp2_with fail;go_ret;exact⟨rfl,rfl⟩
   · have h1':¬m<x:=by omega
     clear h1;go_enter Tryz.func110,Tryz.ntmps110;go_wp2_with fail;go_ret;exact⟨rfl,rfl⟩
set_option maxRecDepth 20000 in
theorem zr5 (base R:Nat) (L:zg) (s:WS) (part K:Value) (U C E next:Nat) (w:World) (hR0:base≤R) (hU:base≤U) (hC:base≤C) (hR:Row w R 130 (wkC L part K U C .nilIface)) (hu:UsedM w U s.ix) (hK:SegM w base K s.vs s.l s.ix)
 (hli:s.ix.length=s.l.length) (hix:∀i∈s.ix,i<s.vs.length) (hE:E - next<9223372036854775808) (hn:next≤E):
 Calls Tryz.prog 112 #[.pointer (some ⟨R,0,none⟩),.int .i64 (next:Int),.int .i64 ((E - next:Nat):Int)] w (WkS w base R L (k8 E s next)):=by
 obtain⟨ka,kc,rfl⟩:=hK.len;have hgr:=kd w R 5 zef;have hN:=hR.notT (by rintro(h | h | h) <;> cases h);have HR:=hid (show Row (w.setCell ⟨R,5,none⟩ zef) R 130 (wkC L zef (.slice ka s.vs.length kc) U C .nilIface) from hR.set 5 _);have HK:=hid (hK.grown hN hgr);have HU:=hid (hu.same (hgr.block U hu.lt (fun e=>by injection e with e;exact hu.ne (show w.heap[R]?=_ from hR) e)));have q5:=hR.cell 5 rfl;have z5:=hR.fz 5;have hc:=z1b (vs:=s.vs) hli;have Hb:=hid ((Below.refl base w).setCell (p:=⟨R,5,none⟩) hR0 zef);have Hix:=hid hix
 have hvl:s.vs.length≤9223372036854775807:=by
  obtain⟨_,X,Y,h1,h2,h3,h4,-⟩:=hK;rcases h4.2 with ⟨h',-⟩ | ⟨g,cap,cur,h',hg,hh,hnc,hcm,_⟩
  · injection h' with _ h' _;omega
  · unfold maxLen at hcm;omega
 unfold k8;simp only[hc];clear hR hu hK hgr hN hc hix hli;unfold zef at HR HK HU Hb;obtain⟨N,hN⟩:∃N,N=s.vs.length:=⟨_,rfl⟩;rw[←hN] at hvl HR HK Hix ⊢;have Hn:=hid hN;have hul:=zk9 s.ix N;clear hN;by_cases h1:vo s.ix N<N
 · rw[if_pos h1];have HN:=hid (fun W=>za9 (c:=10) (o:=next) (by decide) W);have hl:=fun k ty=>((HU.out.same (w':=(w.setCell ⟨R,5,none⟩ (.iface 131 (.agg #[]))).drewN k) rfl).len N Hix.out ty)
   have hd1:decide ((vo s.ix N:Int)<(N:Int))=true:=by rw[decide_eq_true_iff];omega
   have hd2:decide (vo s.ix N<N)=true:=by rw[decide_eq_true_iff];omega
   have q6:=fun k=>(show Row ((w.setCell ⟨R,5,none⟩ (.iface 131 (.agg #[]))).drewN k) R 130 _ from HR.out).cell 6 rfl
   have q7:=fun k=>(show Row ((w.setCell ⟨R,5,none⟩ (.iface 131 (.agg #[]))).drewN k) R 130 _ from HR.out).cell 7 rfl
   clear hul h1;generalize vo s.ix N=u at*;go_enter Tryz.func112,Tryz.ntmps112;go_wp2;generalize w.setCell ⟨R,5,none⟩ (.iface 131 (.agg #[]))=w1 at*;go_quiet (fail);go_wp2_with fail;refine(HN.out _).mono ?_;rintro e w' ⟨rfl,rfl⟩;go_wp2_with fail;go_ret;exact⟨zy Hb.out _,rfl,_,HR.out,rfl⟩
 · rw[if_neg h1];have hl:=fun k ty=>((HU.out.same (w':=(w.setCell ⟨R,5,none⟩ (.iface 131 (.agg #[]))).drewN k) rfl).len N Hix.out ty)
   have hd1:decide ((vo s.ix N:Int)<(N:Int))=false:=by rw[decide_eq_false_iff_not];omega
   have hd2:decide (vo s.ix N<N)=false:=by rw[decide_eq_false_iff_not];omega
   have q6:=fun k=>(show Row ((w.setCell ⟨R,5,none⟩ (.iface 131 (.agg #[]))).drewN k) R 130 _ from HR.out).cell 6 rfl
   have q7:=fun k=>(show Row ((w.setCell ⟨R,5,none⟩ (.iface 131 (.agg #[]))).drewN k) R 130 _ from HR.out).cell 7 rfl
   clear hul h1;generalize vo s.ix N=u at*;by_cases h2:next<E
   · rw[if_pos h2];have h3:0<E - next:=by omega
     have HN:=hid (fun W=>za9 (c:=11) (o:=next) (by decide) W);clear h2 hE hn;generalize E - next=d at*
     go_enter Tryz.func112,Tryz.ntmps112;go_wp2;generalize w.setCell ⟨R,5,none⟩ (.iface 131 (.agg #[]))=w1 at*;go_quiet (fail);go_wp2_with fail;refine(HN.out _).mono ?_;rintro e w' ⟨rfl,rfl⟩;go_wp2_with fail;go_ret;exact⟨zy Hb.out _,rfl,_,HR.out,rfl⟩
   · obtain rfl:next=E:=by omega
     rw[if_neg h2,Nat.sub_self];clear h2 hE hn;go_enter Tryz.func112,Tryz.ntmps112;go_wp2;generalize w.setCell ⟨R,5,none⟩ (.iface 131 (.agg #[]))=w1 at*;go_quiet (fail);go_wp2_with fail;go_ret;exact⟨zy Hb.out _,rfl,hR0,_,_,U,C,hU,hC,HR.out,HU.out.same rfl,rfl,HK.out.later (zy (Below.refl _ _) _)⟩
end
section
open Go.RowKit
def yd {α:Type} (r:RR α) (e:Ending) (w w':World) (g:Nat) (B:Value) (E:Nat) (ok:α→Prop) (bad:Prop):Prop:=
 w.grownBy w' (some g)∧match r with | .ok y=>CurM w' g B E (.ok y.2)∧ok y.1 | .error x=>CurM w' g B E (.error x)∧bad
set_option maxRecDepth 20000 in
theorem zid {w:World} {g n cap E q:Nat} {a:Option Addr} {l:List Nat} {lim:Int} (hB:Rf w a n cap E l) (h:CurM w g (.slice a n cap) E (.ok q)) (hq:q≤n) (hqE:q≤E) (hI:I64 lim):
 Calls Tryz.prog 94 #[.pointer (some ⟨g,0,none⟩),.int .i64 lim] w fun e w'=>yd (yj (zf l E) E lim q) e w w' g (.slice a n cap) E (fun x=>e=.returned (.int .i64 x)) (e=.returned (.int .i64 0)):=by
 have HN:=hid (ze7 hB h hq hqE);have Hl:=hid hB.b.lt;have HE:=hid hB.E
 cases hT:zf l E q with
 | error c=>
  have Hc:=hid (show yj (zf l E) E lim q=.error (c,q) from by unfold yj nmP;rw[hT];rfl);clear hB h hI;go_enter Tryz.func94,Tryz.ntmps94;go_wp2_with fail;refine HN.out.mono ?_;rintro e w1 ⟨hg1,x,rfl,-,h2⟩;obtain⟨rfl,hC1⟩:=h2 c hT;have Hg1:=hid hg1;have HC1:=hid hC1;clear hg1 h2 hC1;go_wp2_with fail;refine(vw HC1.out).mono ?_;rintro e w2 ⟨rfl,rfl⟩;go_wp2_with fail;go_ret;unfold yd;rw[Hc.out]
  exact⟨Hg1.out,HC1.out,rfl⟩
 | ok y=>
  obtain⟨x,q'⟩:=y;obtain⟨t1,t2,t3,t4,-⟩:=za8 Hl.out hT;have hc0:yj (zf l E) E lim q=if zv x lim (E - q')=0 then .ok (x,q') else .error (zv x lim (E - q'),q):=by unfold yj nmP;rw[hT];rfl
  obtain⟨i1,i2⟩:=hI
  have hkind:(lim<0∧x=0∧zv x lim (E - q')=0)∨(lim<0∧x≠0∧zv x lim (E - q')=7)∨(0≤lim∧lim<(x:Int)∧zv x lim (E - q')=7)∨(0≤lim∧¬lim<(x:Int)∧E - q'<x∧zv x lim (E - q')=5)∨(0≤lim∧¬lim<(x:Int)∧¬E - q'<x∧zv x lim (E - q')=0):=by
   unfold zv;by_cases hl:lim<0
   · by_cases hx:x=0
     · exact .inl ⟨hl,hx,by rw[if_neg (fun h=>h.2 hx),if_neg (by omega)]⟩
     · exact .inr (.inl ⟨hl,hx,by rw[if_pos ⟨by omega,hx⟩]⟩)
   · by_cases hx:lim<(x:Int)
     · exact .inr (.inr (.inl ⟨by omega,hx,by rw[if_pos ⟨hx,by omega⟩]⟩))
     · by_cases hr:E - q'<x
       · exact .inr (.inr (.inr (.inl ⟨by omega,hx,hr,by rw[if_neg (fun h=>hx h.1),if_pos hr]⟩)))
       · exact .inr (.inr (.inr (.inr ⟨by omega,hx,hr,by rw[if_neg (fun h=>hx h.1),if_neg hr]⟩)))
  have Hc0:=hid hc0;have HT:=hid hT;clear hB h hc0 hT;rcases hkind with ⟨hl,rfl,hk⟩ | ⟨hl,hx,hk⟩ | ⟨hl,hx,hk⟩ | ⟨hl,hx,hr,hk⟩ | ⟨hl,hx,hr,hk⟩
  · have d1:decide (lim<0)=true:=decide_eq_true hl;have Hc:=hid (show yj (zf l E) E lim q=.ok (0,q') from by rw[Hc0.out,if_pos hk]);clear Hc0 hk hl t4 i1 i2;go_enter Tryz.func94,Tryz.ntmps94;go_wp2_with fail;refine HN.out.mono ?_;rintro e w1 ⟨hg1,x,rfl,h1,-⟩;obtain⟨rfl,hC1⟩:=h1 _ HT.out;have Hg1:=hid hg1;have HC1:=hid hC1;clear hg1 h1 hC1;go_wp2_with fail;refine(kp HC1.out).mono ?_;rintro e w2 ⟨rfl,rfl⟩;go_wp2_with fail;go_ret;unfold yd;rw[Hc.out];exact⟨Hg1.out,HC1.out,rfl⟩
  · have d1:decide (lim<0)=true:=decide_eq_true hl;have d2:((x:Int) == 0)=false:=by rw[beq_eq_false_iff_ne];omega
    have Hc:=hid (show yj (zf l E) E lim q=.error (7,q) from by rw[Hc0.out,if_neg (by omega),hk]);clear Hc0 hk hl hx t4 i1 i2;go_enter Tryz.func94,Tryz.ntmps94;go_wp2_with fail;refine HN.out.mono ?_;rintro e w1 ⟨hg1,x',rfl,h1,-⟩;obtain⟨e1,hC1⟩:=h1 _ HT.out;obtain rfl:x'=x:=e1;have Hg1:=hid hg1;have HC1:=hid hC1;clear hg1 h1 hC1;go_wp2_with fail;refine(kp HC1.out).mono ?_;rintro e w2 ⟨rfl,rfl⟩;go_wp2_with fail;refine(za7 (c:=7) (p:=q) HC1.out (by decide)).mono ?_;rintro e w2 ⟨rfl,hg2,hC2⟩;have Hg2:=hid (yr Hg1.out hg2);have HC2:=hid hC2;clear hg2 hC2;go_wp2_with fail;go_ret;unfold yd;rw[Hc.out];exact⟨Hg2.out,HC2.out,rfl⟩
  · have d1:decide (lim<0)=false:=decide_eq_false (by omega);have d2:IntKind.u64.wrap lim=lim:=by rw[IntKind.wrap_u64];omega
    have d3:decide (lim<(x:Int))=true:=decide_eq_true hx;have Hc:=hid (show yj (zf l E) E lim q=.error (7,q) from by rw[Hc0.out,if_neg (by omega),hk]);clear Hc0 hk hl hx t4 i1 i2;go_enter Tryz.func94,Tryz.ntmps94;go_wp2_with fail;refine HN.out.mono ?_;rintro e w1 ⟨hg1,x',rfl,h1,-⟩;obtain⟨e1,hC1⟩:=h1 _ HT.out;obtain rfl:x'=x:=e1;have Hg1:=hid hg1;have HC1:=hid hC1;clear hg1 h1 hC1;go_wp2_with fail;refine(kp HC1.out).mono ?_;rintro e w2 ⟨rfl,rfl⟩;go_wp2_with fail;refine(za7 (c:=7) (p:=q) HC1.out (by decide)).mono ?_;rintro e w2 ⟨rfl,hg2,hC2⟩;have Hg2:=hid (yr Hg1.out hg2);have HC2:=hid hC2;clear hg2 hC2;go_wp2_with fail;go_ret;unfold yd;rw[Hc.out];exact⟨Hg2.out,HC2.out,rfl⟩
  · have d1:decide (lim<0)=false:=decide_eq_false (by omega);have d2:IntKind.u64.wrap lim=lim:=by rw[IntKind.wrap_u64];omega
    have d3:decide (lim<(x:Int))=false:=decide_eq_false hx;have hE:=HE.out;have d4:IntKind.i64.wrap ((E:Int) - (q':Int))=((E - q':Nat):Int):=by rw[IntKind.wrap_i64];omega
    have d5:IntKind.u64.wrap ((E - q':Nat):Int)=((E - q':Nat):Int):=by rw[IntKind.wrap_u64];omega
    have d6:decide (((E - q':Nat):Int)<(x:Int))=true:=by rw[decide_eq_true_iff];omega
    have d7:decide (E - q'<x)=true:=by rw[decide_eq_true_iff];omega
    have Hc:=hid (show yj (zf l E) E lim q=.error (5,q) from by rw[Hc0.out,if_neg (by omega),hk]);clear Hc0 hk hl hx t4 i1 i2 hr hE;generalize E - q'=R at*;go_enter Tryz.func94,Tryz.ntmps94;go_wp2_with fail;refine HN.out.mono ?_;rintro e w1 ⟨hg1,x',rfl,h1,-⟩;obtain⟨e1,hC1⟩:=h1 _ HT.out;obtain rfl:x'=x:=e1;have Hg1:=hid hg1;have HC1:=hid hC1;clear hg1 h1 hC1;go_wp2_with fail;refine(kp HC1.out).mono ?_;rintro e w2 ⟨rfl,rfl⟩;go_wp2_with fail;refine za1 (by kernel_rfl) (by kernel_rfl) ?_
    repeat (go_big_quiet_step ((intro hw;first
     | rfl
     | (have c1:=Row.cell (Row.later HC1.out hw) 1 rfl
        have c2:=Row.cell (Row.later HC1.out hw) 2 rfl;go_simp;first | rfl | exact⟨rfl,hw⟩ | (trace_state;fail)))))
    refine wpQuiet_nil ?_;intro w2 hb2;have HC2:=hid (CurM.later HC1.out hb2);have Hg2:=hid (ji Hg1.out hb2);clear hb2;go_wp2_with fail;refine(za7 (c:=5) (p:=q) HC2.out (by decide)).mono ?_;rintro e w3 ⟨rfl,hg3,hC3⟩;have Hg3:=hid (yr Hg2.out hg3);have HC3:=hid hC3;clear hg3 hC3;go_wp2_with fail;go_ret;unfold yd;rw[Hc.out];exact⟨Hg3.out,HC3.out,rfl⟩
  · have d1:decide (lim<0)=false:=decide_eq_false (by omega);have d2:IntKind.u64.wrap lim=lim:=by rw[IntKind.wrap_u64];omega
    have d3:decide (lim<(x:Int))=false:=decide_eq_false hx;have hE:=HE.out;have d4:IntKind.i64.wrap ((E:Int) - (q':Int))=((E - q':Nat):Int):=by rw[IntKind.wrap_i64];omega
    have d5:IntKind.u64.wrap ((E - q':Nat):Int)=((E - q':Nat):Int):=by rw[IntKind.wrap_u64];omega
    have d6:decide (((E - q':Nat):Int)<(x:Int))=false:=by rw[decide_eq_false_iff_not];omega
    have d7:decide (E - q'<x)=false:=by rw[decide_eq_false_iff_not];omega
    have d8:IntKind.i64.wrap (x:Int)=(x:Int):=by rw[IntKind.wrap_i64];omega
    have Hc:=hid (show yj (zf l E) E lim q=.ok (x,q') from by rw[Hc0.out,if_pos hk]);clear Hc0 hk hl hx t4 i1 i2 hr hE;generalize E - q'=R at*;go_enter Tryz.func94,Tryz.ntmps94;go_wp2_with fail;refine HN.out.mono ?_;rintro e w1 ⟨hg1,x',rfl,h1,-⟩;obtain⟨e1,hC1⟩:=h1 _ HT.out;obtain rfl:x'=x:=e1;have Hg1:=hid hg1;have HC1:=hid hC1;clear hg1 h1 hC1;go_wp2_with fail;refine(kp HC1.out).mono ?_;rintro e w2 ⟨rfl,rfl⟩;go_wp2_with fail;refine za1 (by kernel_rfl) (by kernel_rfl) ?_
    repeat (go_big_quiet_step ((intro hw;first
     | rfl
     | (have c1:=Row.cell (Row.later HC1.out hw) 1 rfl
        have c2:=Row.cell (Row.later HC1.out hw) 2 rfl;go_simp;first | rfl | exact⟨rfl,hw⟩ | (trace_state;fail)))))
    refine wpQuiet_nil ?_;intro w2 hb2;have HC2:=hid (CurM.later HC1.out hb2);have Hg2:=hid (ji Hg1.out hb2);clear hb2;go_wp2_with fail;go_ret;unfold yd;rw[Hc.out];exact⟨Hg2.out,HC2.out,rfl⟩
theorem zdf {w:World} {g E:Nat} {B:Value} {lim:Int} {x:Nat×Nat} (h:CurM w g B E (.error x)):Calls Tryz.prog 94 #[.pointer (some ⟨g,0,none⟩),.int .i64 lim] w fun e w'=>e=.returned (.int .i64 0)∧w=w':=by
 have HS:=hid h;clear h;go_enter Tryz.func94,Tryz.ntmps94;go_wp2_with fail;refine(zc1 HS.out).mono ?_;rintro e w1 ⟨rfl,rfl⟩;go_wp2_with fail;refine(vw HS.out).mono ?_;rintro e w1 ⟨rfl,rfl⟩;go_wp2_with fail;go_ret;exact⟨rfl,rfl⟩
theorem z3a (a:Option Addr) (n cap:Nat) (k:Kno) (w:World) (hE:Frags w a n cap k) (hJ:Joins k) (hS:(zm k).length≤10000):
 Calls Tryz.prog 86 #[.slice a n cap] w fun x w'=>(∃y,x=.returned y∧OwnK w' w.heap.size 0 y (qt k))∧Below w.heap.size w w':=by
 have hC:=hid (z1t a n cap k w hE hJ hS)
 have hp:(vq k).length≤10000:=by
  have h1:=zhs k (zm k).length;rw[zhr] at h1;omega
 have hl:(jt k).length≤50000:=by unfold jt;rw[List.length_map];omega
 have hs:zu (jt k)≤50000:=by unfold jt;rw[zx9 k k];omega
 have hv:∀f∈jt k,VecFits f.2∧CanV f.2:=fun f hf=>by
  unfold jt at hf;obtain⟨s,hs,rfl⟩:=List.mem_map.1 hf;obtain⟨c1,c2,_⟩:=zcv hJ.lt s.1;have h1:VecFits (atK k s.1):=by rw[←zkh];exact hJ.fits.at_ _ _
  exact⟨h1,c1⟩
 have hG:=hid (fun a c w' (h:Frags w' a (jt k).length c (jt k))=>z2l a _ c (jt k) w' h (zkd hJ.lt) (fun f hf=>(hv f hf).1) (fun f hf=>(hv f hf).2) hs hl);have Hck:=hid (show qt k=zb2 (jt k) from rfl);clear hE hJ hS hl hs hv hp;go_enter Tryz.func86,Tryz.ntmps86;go_wp2_with fail;refine hC.out.mono ?_;rintro e w1 ⟨⟨v,rfl,ho⟩,hb⟩;have Hb:=hid hb;obtain⟨a1,c1,rfl,h1⟩:=ho.frags;have H1:=hid h1;clear ho hb h1;go_wp2_with fail;refine(hG.out a1 c1 w1 H1.out).mono ?_;rintro e w2 ⟨⟨v,rfl,ho⟩,hb⟩;have Ho:=hid ho;have Hb2:=hid hb;clear ho hb;go_wp2;go_ret;exact⟨⟨v,rfl,by rw[Hck.out];exact Ho.out.lower Hb.out.size⟩,Hb.out.trans (Hb2.out.mono Hb.out.size)⟩
theorem zr6 {k:Kno} (hc:CanK k):zbr (j7 k) 0:=by
 obtain⟨-,-,h3⟩:=zcg k k.length (Nat.le_refl _);have hp:=List.pairwise_iff_getElem.1 (zp8 hc);intro i hi;rw[zd8] at hi;rw[zh3 hi];refine⟨(hc.items _ (yx (h3 _ (List.getElem_mem hi)).1)).1.ok _ (h3 _ (List.getElem_mem hi)).2,fun h0=>?_⟩;have:=(hp (i - 1) i (by omega) hi (by omega)).1;rw[zh3 (by omega)];omega
theorem zlk {k:Kno} {i:Nat} (h:i<(zi k).length):nth ((zi k).map (·.2)) i<k.length:=by
 obtain⟨-,-,h3⟩:=zcg k k.length (Nat.le_refl _);have e:nth ((zi k).map (·.2)) i=(zi k)[i].2:=by simp[nth,h]
 rw[e];exact(h3 _ (List.getElem_mem h)).1
theorem zr7 {c:Kno} (h:∀f∈c,VecFits f.2):∀d,d≤c.length→(jm c d).length≤1+301000*d
 | 0,_=>by simp[jm]
 | d+1,hd=>by
   have h1:=zr7 h d (by omega);have hf:=h _ (yx (show d<c.length from hd));have h2:=zlh (zb c d).2 hf.holes (zb c d).2.length (Nat.le_refl _);have h3:=hf.len;rw[jm,List.length_append];unfold zam;omega
theorem zie (l:List Iv) (x:List Nat):∀d,(kf l x d).length=1+3*d
 | 0=>rfl
 | d+1=>by rw[kf,List.length_append,zie l x d];simp;omega
structure EncK (c:Kno):Prop where
 can:CanK c
 lt:LtK c
 vec:∀f∈c,VecFits f.2
 sum:zu c≤1000
 len:c.length≤1000
theorem z3b {c:Kno} (hK:EncK c) (d:Nat) (hd:d≤c.length):(jm c d).length≤400000000:=by
 have h1:=zr7 hK.vec d hd;have h2:301000*d≤301000*1000:=Nat.mul_le_mul_left _ (Nat.le_trans hd hK.len);omega
theorem zr8 {v:Vec} (h:LtV v) (hh:∀e∈v,e.2.2.length≤500) (hl:v.length≤300):∀d,d≤v.length→∀y∈jw v d,y<18446744073709551616
 | 0,_,y,hy=>by
   simp[jw] at hy;subst hy
   omega
 | d+1,hd,y,hy=>by
   rw[jw] at hy;rcases List.mem_append.1 hy with hy | hy
   · exact zr8 h hh hl d (by omega) y hy
   · exact zru h hh hd y hy
theorem z3c {c:Kno} (hK:EncK c):∀x∈qr c,x<18446744073709551616:=by
 have hv:∀d,d≤c.length→∀x∈jm c d,x<18446744073709551616:=by
  intro d
  induction d with
  | zero=>
   intro _ x hx;simp[jm] at hx;subst hx;have:=hK.len
   omega
  | succ d ih=>
   intro hd x hx;rw[jm] at hx;rcases List.mem_append.1 hx with hx | hx
   · exact ih (by omega) x hx
   · have hm:=yx (show d<c.length from hd);have hf:=hK.vec _ hm;exact zr8 (hK.lt _ hm).vec hf.holes hf.len _ (Nat.le_refl _) x hx
 have hs:∀d,d≤(zi c).length→∀x∈kf ((zi c).map (·.1)) ((zi c).map (·.2)) d,x<18446744073709551616:=by
  obtain⟨-,-,h3⟩:=zcg c c.length (Nat.le_refl _)
  have hll:(zi c).length≤1000:=by
   have:=zh0 c c.length (Nat.le_refl _);rw[List.take_length] at this;have:=hK.sum;unfold zi;omega
  intro d
  induction d with
  | zero=>
   intro _ x hx;simp[kf] at hx;subst hx
   omega
  | succ d ih=>
   intro hd x hx;rw[kf] at hx
   have hlt:∀i,i<(zi c).length→(za ((zi c).map (·.1)) i).1<18446744073709551616∧(za ((zi c).map (·.1)) i).2<18446744073709551616:=fun i hi=>by
    have e:za ((zi c).map (·.1)) i=(zi c)[i].1:=zh3 hi;rw[e];exact(hK.lt _ (yx (h3 _ (List.getElem_mem hi)).1)).items _ (h3 _ (List.getElem_mem hi)).2
   rcases List.mem_append.1 hx with hx | hx
   · exact ih (by omega) x hx
   · simp at hx;have h1:=hlt d (by omega);rcases hx with rfl | rfl | rfl
     · unfold jq;split
       · exact(hlt 0 (by omega)).1
       · omega
     · omega
     · have:=zlk (k:=c) (i:=d) (by omega);have:=hK.len;omega
 intro x hx;unfold qr at hx;rcases List.mem_append.1 hx with hx | hx
 · exact hv _ (Nat.le_refl _) x hx
 · exact hs _ (Nat.le_refl _) x hx
end
section
def T64 (T:zt):Prop:=∀p x q,T p=.ok (x,q)→x<18446744073709551616
theorem j8 {α β:Type} {a:RR α} {f:α→Nat→RR β} {y:β×Nat} (h:thn a f=.ok y):∃x q,a=.ok (x,q)∧f x q=.ok y:=by
 cases a with
 | error e=>cases h
 | ok z=>exact⟨z.1,z.2,rfl,h⟩
theorem zdg {T:zt} {p x q:Nat} (h:nmP T p=.ok (x,q)):T p=.ok (x,q):=by
 unfold nmP at h
 cases hT:T p with
 | error c=>rw[hT] at h;cases h
 | ok y=>rw[hT] at h;cases h;rfl
theorem zge {T:zt} {E p x q:Nat} {lim:Int} (h:yj T E lim p=.ok (x,q)):T p=.ok (x,q)∧okC x lim:=by
 unfold yj at h;obtain⟨y,r,h1,h2⟩:=j8 h;split at h2
 · rename_i h3;cases h2;refine⟨zdg h1,?_⟩;unfold zv at h3;unfold okC;split at h3
   · cases h3
   · rename_i h4;rcases Nat.eq_zero_or_pos x with h5 | h5
     · exact .inr h5
     · exact .inl (by
        by_cases h6:lim<(x:Int)
        · exact absurd ⟨h6,by omega⟩ h4
        · omega)
 · cases h2
theorem za0 {l:List Iv} {t:List Iv} {i:Nat} (h:i<l.length):za (l++t) i=za l i:=by
 rw[yw h,yw (by rw[List.length_append];omega),List.getElem_append_left h]
theorem zgf (l:List Iv) (s:Iv):za (l++[s]) l.length=s:=by
 rw[yw (by simp)];simp
theorem zr9 (l t:List Iv) (a:Nat):∀d,d≤l.length→vt (l++t) a d=vt l a d
 | 0,_=>rfl
 | d+1,h=>by
   rw[vt,vt,zr9 l t a d (by omega),za0 h]
   have:jq (l++t) a d=jq l a d:=by
    unfold jq;rw[za0 (by omega),za0 (i:=d) h,za0 (by omega)]
   rw[this]
theorem zsa (l:List Iv):z7 l=if l.length=0 then none else some (za l (l.length - 1)).2:=by
 unfold z7;rw[List.getLast?_eq_getElem?]
 cases h:l.length with
 | zero=>rw[List.length_eq_zero_iff.1 h];rfl
 | succ n=>rw[if_neg (by omega),show n+1 - 1=n by omega,List.getElem?_eq_getElem (by omega),yw (by omega)];rfl
theorem zsb {T:zt} {l:List Iv} {a p q w:Nat} {s:Iv} (hT:T64 T) (hD:zbr l a) (hl:zk l) (h:ivP T (z7 l) a p=.ok ((s,w),q)):
 zbr (l++[s]) a∧zk (l++[s])∧jg T p [jq (l++[s]) a l.length,s.2 - s.1] q:=by
 unfold ivP at h;obtain⟨x,r,h1,h2⟩:=j8 h;have t1:=zdg h1;have x64:=hT _ _ _ t1
 cases hlo:loP (z7 l) a x with
 | none=>rw[hlo] at h2;cases h2
 | some lo=>
  rw[hlo] at h2;simp only[hiP] at h2;obtain⟨y,r',h3,h4⟩:=j8 h2;have t2:=zdg h3;split at h4
  · rename_i hb;cases h4
    have hg:jq (l++[(lo,lo+y)]) a l.length=x∧(0<l.length→(za l (l.length - 1)).2+1+a≤lo)∧lo<18446744073709551616:=by
     rw[zsa] at hlo;unfold jq;rcases Nat.eq_zero_or_pos l.length with h0 | h0
     · rw[if_pos h0] at hlo;cases hlo;rw[if_pos h0];have:l=[]:=List.length_eq_zero_iff.1 h0;subst this;exact⟨rfl,fun h=>by simp at h,x64⟩
     · rw[if_neg (by omega)] at hlo;simp only[loP] at hlo;split at hlo
       · cases hlo;rw[if_neg (by omega),zgf,za0 (by omega)];exact⟨by simp only;omega,fun _=>by omega,by assumption⟩
       · cases hlo
    refine⟨fun i hi=>?_,fun t ht=>?_,⟨_,by rw[hg.1];exact t1,_,by rw[show (lo,lo+y).2 - (lo,lo+y).1=y by simp only;omega];exact t2,rfl⟩⟩
    · rw[List.length_append,List.length_cons,List.length_nil] at hi;rcases Nat.lt_or_ge i l.length with h5 | h5
      · rw[za0 h5];refine⟨(hD i h5).1,fun h0=>?_⟩;rw[za0 (by omega)];exact(hD i h5).2 h0
      · obtain rfl:i=l.length:=by omega
        rw[zgf];refine⟨by simp only;omega,fun h0=>?_⟩;rw[za0 (by omega)];exact hg.2.1 h0
    · rcases List.mem_append.1 ht with ht | ht
      · exact hl t ht
      · simp at ht;subst ht;exact⟨hg.2.2,hb⟩
  · cases h4
theorem zsc {T:zt} {mx:Nat} (hT:T64 T):∀(n:Nat) (acc:List Iv) {p q:Nat} {h:List Iv},jb T mx n acc p=.ok (h,q)→zbr acc 1→zk acc→(∀s∈acc,s.2<mx)→
 ∀{P0:Nat},jg T P0 (vt acc 1 acc.length) p→jg T P0 (vt h 1 h.length) q∧zbr h 1∧zk h∧(∀s∈h,s.2<mx)∧h.length=acc.length+n
 | 0,acc,p,q,h,hh,hD,hl,hm,P0,hr=>by cases hh;exact⟨hr,hD,hl,hm,rfl⟩
 | n+1,acc,p,q,h,hh,hD,hl,hm,P0,hr=>by
   rw[jb] at hh;obtain⟨⟨s,w⟩,r,h1,h2⟩:=j8 hh;obtain⟨d1,d2,d3⟩:=zsb hT hD hl h1;unfold zaw at h2;split at h2
   · cases h2
   · rename_i h3;simp only at h3 h2
     obtain⟨e1,e2,e3,e4,e5⟩:=zsc hT n (acc++[s]) h2 d1 d2 (fun t ht=>by
      rcases List.mem_append.1 ht with ht | ht
      · exact hm t ht
      · simp at ht;subst ht;omega) (P0:=P0) (by
      rw[List.length_append,List.length_cons,List.length_nil,Nat.zero_add,vt,zr9 acc [s] 1 acc.length (Nat.le_refl _),zgf];exact kj.2 ⟨p,hr,d3⟩)
     refine⟨e1,e2,e3,e4,?_⟩;rw[e5,List.length_append,List.length_cons,List.length_nil];omega
theorem z3d {l:List Iv} (h:zbr l 1):Good l:=zgz fun i hi=>⟨(h i hi).1,fun h0=>by have:=(h i hi).2 h0;omega⟩
def zcj (v:Vec):Nat→List Nat
 | 0=>[]
 | d+1=>zcj v d++vh v d
theorem zsd (v:Vec):∀d,jw v d=v.length :: zcj v d
 | 0=>rfl
 | d+1=>by rw[jw,zcj,zsd v d];rfl
theorem zgg {v t:Vec} {i:Nat} (h:i<v.length):ze (v++t) i=ze v i:=by
 rw[ja h,ja (by rw[List.length_append];omega),List.getElem_append_left h]
theorem zll (v:Vec) (e:Ent):ze (v++[e]) v.length=e:=by
 rw[ja (by simp)];simp
theorem zse (v t:Vec):∀d,d≤v.length→zcj (v++t) d=zcj v d
 | 0,_=>rfl
 | d+1,h=>by
   rw[zcj,zcj,zse v t d (by omega)]
   have:vh (v++t) d=vh v d:=by
    unfold vh zb5;rw[zgg (i:=d) h,zgg (i:=0) (by omega),zgg (i:=d - 1) (by omega)]
   rw[this]
theorem z3e (v:Vec):v.getLast?=if v.length=0 then none else some (ze v (v.length - 1)):=by
 rw[List.getLast?_eq_getElem?]
 cases h:v.length with
 | zero=>rw[List.length_eq_zero_iff.1 h];rfl
 | succ n=>rw[if_neg (by omega),show n+1 - 1=n by omega,List.getElem?_eq_getElem (by omega),ja (by omega)]
theorem z3f {T:zt} {E:Nat} {lim:Int} (hT:T64 T) {v:Vec} {e:Ent} {p q:Nat} (h:jr T E lim v p=.ok (e,q)):
 jg T p (vh (v++[e]) v.length) q∧CanE e∧LtE e∧okC e.2.2.length lim∧(0<v.length→(ze v (v.length - 1)).1<e.1):=by
 unfold jr at h;obtain⟨x,r,h1,h2⟩:=j8 h;have t1:=zdg h1
 cases hr:ko v x with
 | none=>rw[hr] at h2;cases h2
 | some rp=>
  rw[hr] at h2;simp only[zbs] at h2;obtain⟨mx,r2,h3,h4⟩:=j8 h2;have t2:=zdg h3;unfold zb6 at h4;obtain⟨n,r3,h5,h6⟩:=j8 h4;obtain⟨t3,hc⟩:=zge h5;obtain⟨hl,r4,h7,h8⟩:=j8 h6;cases h8;obtain⟨e1,e2,e3,e4,e5⟩:=zsc hT n [] h7 (fun i hi=>(by simp at hi)) (fun t ht=>(by cases ht)) (fun t ht=>(by cases ht)) (P0:=r3) rfl;have hn:hl.length=n:=by simpa using e5
  have hg:=z3d e2
  have hrep:zb5 (v++[(rp,mx,hl)]) v.length=x∧rp<18446744073709551616∧(0<v.length→(ze v (v.length - 1)).1<rp):=by
   have x64:=hT _ _ _ t1;unfold ko at hr;rw[z3e] at hr;unfold zb5;rcases Nat.eq_zero_or_pos v.length with h0 | h0
   · rw[if_pos h0] at hr;cases hr;rw[if_pos h0];have:v=[]:=List.length_eq_zero_iff.1 h0;subst this;exact⟨rfl,x64,fun h=>by simp at h⟩
   · rw[if_neg (by omega)] at hr;simp only at hr;split at hr
     · cases hr;rw[if_neg (by omega),zll,zgg (by omega)];exact⟨by simp only;omega,by assumption,fun _=>by omega⟩
     · cases hr
  refine⟨?_,⟨hg,fun s hs=>Nat.le_of_lt (e4 s hs),?_⟩,⟨hrep.2.1,hT _ _ _ t2,e3⟩,by simp only[hn];exact hc,hrep.2.2⟩
  · unfold vh;rw[hrep.1,zll];refine kj.2 ⟨r3,⟨r,t1,r2,t2,r3,by simp only[hn];exact t3,rfl⟩,e1⟩
  · cases hm:mem hl mx with
    | false=>rfl
    | true=>
     obtain⟨s,hs,a1,a2⟩:=mem_iff.1 hm;have:=e4 s hs;omega
structure EInv (lim:Int) (v:Vec):Prop where
 can:CanV v
 lt:LtV v
 lim:∀i,i<v.length→okC (ze v i).2.2.length lim
theorem zsf {T:zt} {E:Nat} {lim:Int} (hT:T64 T):∀(n:Nat) (acc:Vec) {p q:Nat} {v:Vec},qu T E lim n acc p=.ok (v,q)→EInv lim acc→
 ∀{P0:Nat},jg T P0 (zcj acc acc.length) p→jg T P0 (zcj v v.length) q∧EInv lim v∧v.length=acc.length+n
 | 0,acc,p,q,v,h,hI,P0,hr=>by cases h;exact⟨hr,hI,rfl⟩
 | n+1,acc,p,q,v,h,hI,P0,hr=>by
   rw[qu] at h;obtain⟨e,r,h1,h2⟩:=j8 h;obtain⟨a1,a2,a3,a4,a5⟩:=z3f hT h1
   obtain⟨b1,b2,b3⟩:=zsf hT n (acc++[e]) h2 ⟨⟨List.pairwise_append.2 ⟨hI.can.asc,List.pairwise_singleton _ _,fun x hx y hy=>by
    simp at hy;subst hy;obtain⟨i,hi,rfl⟩:=List.getElem_of_mem hx;have h3:=a5 (by omega);unfold vg;rcases Nat.lt_or_ge i (acc.length - 1) with h4 | h4
    · have h5:=List.pairwise_iff_getElem.1 hI.can.asc i (acc.length - 1) hi (by omega) h4;unfold vg at h5;rw[ja (by omega)] at h3;omega
    · rw[ja (by omega)] at h3;have e':i=acc.length - 1:=by omega
      subst e';exact h3⟩,fun x hx=>by
    rcases List.mem_append.1 hx with hx | hx
    · exact hI.can.ent x hx
    · simp at hx;subst hx;exact a2⟩,fun x hx=>by
    rcases List.mem_append.1 hx with hx | hx
    · exact hI.lt x hx
    · simp at hx;subst hx;exact a3,fun i hi=>by
    rw[List.length_append,List.length_cons,List.length_nil] at hi;rcases Nat.lt_or_ge i acc.length with h4 | h4
    · rw[zgg h4];exact hI.lim i h4
    · obtain rfl:i=acc.length:=by omega
      rw[zll];exact a4⟩ (P0:=P0) (by
    rw[List.length_append,List.length_cons,List.length_nil,Nat.zero_add,zcj,zse acc [e] acc.length (Nat.le_refl _)];exact kj.2 ⟨p,hr,a1⟩)
   refine⟨b1,b2,?_⟩;rw[b3,List.length_append,List.length_cons,List.length_nil];omega
theorem z3g {T:zt} {E:Nat} {le lh:Int} (hT:T64 T) {v:Vec} {p q:Nat} (h:vk T E le lh p=.ok (v,q)):jg T p (zam v) q∧CanV v∧LtV v∧v≠[]∧okV le lh v:=by
 unfold vk at h;obtain⟨n,r,h1,h2⟩:=j8 h;obtain⟨t1,hc⟩:=zge h1;split at h2
 · cases h2
 · rename_i h0;obtain⟨b1,b2,b3⟩:=zsf hT n [] h2 ⟨⟨List.Pairwise.nil,fun e he=>(by cases he)⟩,fun e he=>(by cases he),fun i hi=>(by simp at hi)⟩ (P0:=r) rfl;have hn:v.length=n:=by simpa using b3
   refine⟨?_,b2.can,b2.lt,fun e=>h0 (by rw[←hn,e];rfl),by rw[hn];exact hc,b2.lim⟩;unfold zam;rw[zsd,hn];exact⟨r,t1,by rw[←hn];exact b1⟩
