/- Part 14. -/
import Derived.Test.YtdnipikdddfhfaaGreatDoorSa13
set_option linter.unusedVariables false
set_option maxHeartbeats 16000000
namespace Go.Proofs.YtdnipikdddfhfaaGreatDoor
open Lib (hid)
section
open Go.RowKit
attribute [local go_sem] yq
theorem zuj (L:za) (w:World):Calls Tryz.prog 145 #[lmV L] w fun e w'=>e=.returned (.pointer (some ⟨w.heap.size+1,0,none⟩))∧PkR w' w.heap.size (w.heap.size+1) L (pkF (w.heap.size+1) 0) ps0∧Below w.heap.size w w':=by
 unfold lmV;go_enter Tryz.func145,Tryz.ntmps145;go_wp2_with fail;go_ret;refine⟨rfl,⟨by omega,.slice none 0 0,.pointer none,?_,rfl⟩,((Below.refl _ _).alloc (Nat.le_refl _) _).alloc (by simp) _⟩;have:=yo (w.alloc (.cells #[.int .i64 L.1,.int .i64 L.2.1,.int .i64 L.2.2.1,.int .i64 L.2.2.2.1,.int .i64 L.2.2.2.2] 24)) 282 (pkC L (pkF (w.heap.size+1) 0) (.slice none 0 0) 0 0 (.pointer none));rw[World.size_alloc] at this;exact this
theorem zfn (g ge n cap:Nat) (w:World) (hq:w.cell? ⟨g,7,none⟩=some (.slice (some ⟨ge,0,none⟩) (n+1) cap)) (hn:n≤1000000000000):
 Calls Tryz.prog 272 #[.pointer (some ⟨g,0,none⟩)] w fun e w'=>e=.returned (.pointer (some ⟨ge,n*3,none⟩))∧∃k,w'=w.drewN k:=by
 go_enter Tryz.func272,Tryz.ntmps272;go_wp2;go_quiet (fail);go_wp2;go_ret;exact⟨rfl,_,rfl⟩
set_option maxRecDepth 20000 in
theorem zuk (base g:Nat) (L:za) (nx:Value) (s:PS) (x rest:Nat) (w:World) (h:PkR w base g L nx s) (ht:s.tag=0) (hL:LimsI L) (hx:x<18446744073709551616) (hr:rest<9223372036854775808):
 Calls Tryz.prog 189 #[.pointer (some ⟨g,0,none⟩),.int .u64 (x:Int),.int .i64 (rest:Int)] w (PkS w base g L (zy L.2.2.1 L.2.2.2.1 s x rest)):=by
 obtain⟨tag,v,rep,mx,hh,ents,hls,lo⟩:=s;simp only at ht;subst ht;obtain⟨hg,V,cu,hR,hB⟩:=h;have hV:V=.slice none 0 0:=hB;subst hV;have HL:=hid (zlz x L.2.2.1 rest w hx hL.c hr);have q2:=hR.cell 2 rfl;have q8:=hR.cell 8 rfl;have z8:=hR.fz 8;have HR:=hid hR;have Hg:=hid (show base≤w.heap.size by have:=hR.lt;omega);clear hB;by_cases hc:zo x L.2.2.1 rest=0
 · rw[hc] at HL;have Hc:=hid hc;clear hc hx hr;by_cases hx0:x=0
   · subst hx0
     have Hp:=hid (show zy L.2.2.1 L.2.2.2.1 ⟨0,v,rep,mx,hh,ents,hls,lo⟩ 0 rest=.error 9 from by
      show (if zo 0 L.2.2.1 rest≠0 then _ else _)=_;rw[if_neg (fun h=>h Hc.out),if_pos rfl])
     rw[Hp.out];clear hR;go_enter Tryz.func189,Tryz.ntmps189;go_wp2_with fail;refine HL.out.mono ?_;rintro e w' ⟨rfl,rfl⟩;simp only[zda,if_true];go_wp2_with fail;go_ret2;exact⟨Below.refl _ _,rfl,_,HR.out,rfl⟩
   · have Hp:=hid (show zy L.2.2.1 L.2.2.2.1 ⟨0,v,rep,mx,hh,ents,hls,lo⟩ x rest=.ok ⟨1,[],rep,mx,hh,x,hls,lo⟩ from by
      show (if zo x L.2.2.1 rest≠0 then _ else _)=_;rw[if_neg (fun h=>h Hc.out),if_neg hx0])
     rw[Hp.out];have HS:=hid (show Row (w.setCell ⟨g,8,none⟩ (.int .u64 (x:Int))) g 282 (pkC L nx (.slice none 0 0) x hls cu) from hR.set 8 _);clear hR;go_enter Tryz.func189,Tryz.ntmps189;go_wp2_with fail;refine HL.out.mono ?_;rintro e w' ⟨rfl,rfl⟩;simp only[zda,if_true];go_wp2_with fail;go_ret2;exact⟨(Below.refl _ _).setCell (p:=⟨g,8,none⟩) hg _,nx,rfl,hg,_,cu,HS.out,zj3 _ _⟩
 · have Hp:=hid (show zy L.2.2.1 L.2.2.2.1 ⟨0,v,rep,mx,hh,ents,hls,lo⟩ x rest=.error (zo x L.2.2.1 rest) from by
    show (if zo x L.2.2.1 rest≠0 then _ else _)=_;rw[if_pos hc])
   rw[Hp.out];have hcv:zda (zo x L.2.2.1 rest)=.iface 35 (.int .i64 ((zo x L.2.2.1 rest:Nat):Int)):=if_neg hc;rw[hcv] at HL;clear hc hx hr hR hcv;generalize zo x L.2.2.1 rest=c at*;go_enter Tryz.func189,Tryz.ntmps189;go_wp2_with fail;refine HL.out.mono ?_;rintro e w' ⟨rfl,rfl⟩;go_wp2_with fail;go_ret2;exact⟨Below.refl _ _,rfl,_,HR.out,rfl⟩
set_option maxRecDepth 20000 in
theorem zul (base g:Nat) (L:za) (nx:Value) (s:PS) (x rest:Nat) (w:World) (h:PkR w base g L nx s) (ht:s.tag=2) (hl:s.v.length≤1000000000000):
 Calls Tryz.prog 260 #[.pointer (some ⟨g,0,none⟩),.int .u64 (x:Int),.int .i64 (rest:Int)] w (PkS w base g L (zy L.2.2.1 L.2.2.2.1 s x rest)):=by
 obtain⟨tag,v,rep,mx,hh,ents,hls,lo⟩:=s;simp only at ht hl;subst ht;obtain⟨hg,V,cu,hR,hB⟩:=h;have hE:EntO w base V v rep 0 []:=hB;obtain⟨ge,cap,rfl,hge,hgl,⟨C,fr,hrow⟩,c0,c1,hf,-⟩:=hE.at
 have HE:=hid (fun k=>(hE.later (zq (Below.refl _ _) k)).max x);have q7:=hR.cell 7 rfl;have HP:=hid (zfn g ge v.length cap w q7 hl);have HR:=hid hR
 have Hne:=hid (show g≠ge from fun e=>by
  subst e;unfold Row at hR;rw[hrow] at hR;injection hR with hR;injection hR with _ hR _;cases hR)
 have Hp:=hid (show zy L.2.2.1 L.2.2.2.1 ⟨2,v,rep,mx,hh,ents,hls,lo⟩ x rest=.ok ⟨3,v,rep,x,hh,ents,hls,lo⟩ from rfl);rw[Hp.out];have c1':∀k,(w.drewN k).cell? ⟨ge,v.length*3+1,none⟩=some (.int .u64 0):=fun k=>c1
 have f1:∀k,(w.drewN k).frozen? ⟨ge,v.length*3+1,none⟩=false:=fun k=>hf _
 clear hE hB hrow c0 c1 hf hR q7;go_enter Tryz.func260,Tryz.ntmps260;go_wp2_with fail;refine HP.out.mono ?_;rintro e w' ⟨rfl,k,rfl⟩;go_wp2_with fail;go_ret2;exact⟨(show Below base w (w.drewN k) from zq (Below.refl _ _) k).setCell (p:=⟨ge,v.length*3+1,none⟩) hge _,nx,rfl,hg,_,cu,(show Row (w.drewN k) _ _ _ from HR.out).other (a:=⟨ge,v.length*3+1,none⟩) Hne.out _,HE.out k⟩
end
section
open Go.RowKit
attribute [local go_sem] yq
def wkC (L:za) (part K:Value) (U C:Nat) (err:Value):List Value:=
 [.int .i64 L.1,.int .i64 L.2.1,.int .i64 L.2.2.1,.int .i64 L.2.2.2.1,.int .i64 L.2.2.2.2,part,K,.map (some U),.pointer (some ⟨C,0,none⟩),err]
def zcn:Value:=.iface 131 (.agg #[])
def vcC (left:Nat) (frm:Int) (ip:Value):List Value:=[.int .u64 (left:Int),.int .i64 frm,ip]
def sgC (left turn:Nat) (last:Int) (touch:Bool):List Value:=[.int .u64 (left:Int),.int .i64 (turn:Int),.int .i64 last,.bool touch]
def VecAt (w:World) (base R:Nat) (L:za) (K:Value) (U C B:Nat) (s:WS):Prop:=
 (s.inner=ps0∧(∃ip,Row w B 199 (vcC s.left (-1) ip))∧KV w base K s.vs)∨
 (1≤s.inner.tag∧∃P pb wb,Row w B 199 (vcC s.left (s.frm:Int) (.pointer (some ⟨P,0,none⟩)))∧KV wb base K s.vs∧Steady 0 yz wb w∧wb.heap.size≤pb∧base≤pb∧R<pb∧U<pb∧C<pb∧B<pb∧PkR w pb P L (pkF P s.inner.tag) s.inner)
def cuC (C lo0:Nat) (s:WS):List Value:=match s.turn with | 0=>qk C 0 lo0 s.l.getLast? false | 1=>qk C 0 s.lo s.l.getLast? true | _=>qk C 0 lo0 (some (s.lo,s.hi)) false
def zum (w:World) (C B:Nat) (s:WS):Prop:=
 ∃(last:Int) (touch:Bool) (lo0:Nat),Row w B 204 (sgC s.left s.turn last touch)∧(∀x,s.ix.getLast?=some x→last=(x:Int))∧(1≤s.turn→touch=s.tch)∧
  Row w C 193 (cuC C lo0 s)
def WkB (w:World) (base R:Nat) (L:za) (s:WS) (part K:Value) (U C:Nat):Prop:=
 match s.tag with
 | 0=>part=.iface 123 (.agg #[])∧KV w base K s.vs∧Row w C 193 (qk C 0 0 none false)
 | 1=>∃B,part=.iface 196 (.pointer (some ⟨B,0,none⟩))∧base≤B∧Row w C 193 (qk C 0 0 none false)∧VecAt w base R L K U C B s
 | 2=>part=.iface 200 (.agg #[])∧KV w base K s.vs∧Row w C 193 (qk C 0 0 none false)
 | 3=>∃B,part=.iface 202 (.pointer (some ⟨B,0,none⟩))∧base≤B∧SegM w base K s.vs s.l s.ix∧zum w C B s
 | _=>part=zcn∧SegM w base K s.vs s.l s.ix
def WkR (w:World) (base R:Nat) (L:za) (s:WS):Prop:=
 base≤R∧∃part K U C,base≤U∧base≤C∧Row w R 130 (wkC L part K U C .nilIface)∧UsedM w U s.ix∧WkB w base R L s part K U C
def zap (c o:Nat):Value:=.iface 112 (.agg #[.int .i64 (c:Int),.int .i64 (o:Int)])
theorem zun {c o:Nat} (h:c≠0):yh (zcf (c:Int) (o:Int))=zap c o:=by
 unfold zcf;rw[if_neg (by omega)]
 rfl
def WkS (w:World) (base R:Nat) (L:za) (r:Except (Nat×Nat) WS) (e:Ending) (w':World):Prop:=
 Below base w w'∧match r with
 | .error x=>e=.returned (zap x.1 x.2)∧∃C,Row w' R 130 C∧C.length=10
 | .ok s'=>e=.returned .nilIface∧WkR w' base R L s'
theorem k7 {c o:Nat} (h:c≠0) (w:World):Calls Tryz.prog 82 #[.int .i64 (c:Int),.int .i64 (o:Int)] w fun e w'=>e=.returned (zap c o)∧w=w':=
 (zbh (c:Int) (o:Int) w).mono fun e w' ⟨h1,h2⟩=>⟨by rw[h1,zun h],h2⟩
theorem zmj (x:Nat) (lim:Int) (rest:Nat) (w:World) (hx:x<18446744073709551616) (hl:I64 lim) (hr:rest<9223372036854775808):
 Calls Tryz.prog 110 #[.int .u64 (x:Int),.int .i64 lim,.int .i64 (rest:Int)] w fun e w'=>e=.returned (.int .i64 ((zo x lim rest:Nat):Int))∧w=w':=by
 have hc:=zly x lim rest;obtain⟨l1,l2⟩:=hl;generalize zo x lim rest=c at*;have Hx:=hid hx;clear hx;by_cases hneg:lim<0
 · have e0:max lim 0=0:=by omega
   rw[e0] at hc;clear e0;rcases hc with ⟨h1,rfl⟩ | ⟨h1,h2,rfl⟩ | ⟨h1,h2,rfl⟩
   · have h1':0<x:=by omega
     clear h1;go_enter Tryz.func110,Tryz.ntmps110;go_wp2_with fail;go_ret;exact⟨rfl,rfl⟩
   · have h1':x=0:=by omega
     omega
   · obtain rfl:x=0:=by omega
     go_enter Tryz.func110,Tryz.ntmps110;go_wp2_with fail;go_ret;exact⟨rfl,rfl⟩
 · obtain⟨m,rfl⟩:=Int.eq_ofNat_of_zero_le (show 0≤lim by omega);have e0:max (m:Int) 0=(m:Int):=by omega
   rw[e0] at hc;clear e0;rcases hc with ⟨h1,rfl⟩ | ⟨h1,h2,rfl⟩ | ⟨h1,h2,rfl⟩
   · have h1':m<x:=by omega
     clear h1;go_enter Tryz.func110,Tryz.ntmps110;go_wp2_with fail;go_ret;exact⟨rfl,rfl⟩
   · have h1':¬m<x:=by omega
     clear h1;go_enter Tryz.func110,Tryz.ntmps110;go_wp2_with fail;go_ret;exact⟨rfl,rfl⟩
   · have h1':¬m<x:=by omega
     clear h1;go_enter Tryz.func110,Tryz.ntmps110;go_wp2_with fail;go_ret;exact⟨rfl,rfl⟩
set_option maxRecDepth 20000 in
theorem zmk (base R:Nat) (L:za) (s:WS) (part K:Value) (U C E next:Nat) (w:World) (hR0:base≤R) (hU:base≤U) (hC:base≤C) (hR:Row w R 130 (wkC L part K U C .nilIface)) (hu:UsedM w U s.ix) (hK:SegM w base K s.vs s.l s.ix)
 (hli:s.ix.length=s.l.length) (hix:∀i∈s.ix,i<s.vs.length) (hE:E - next<9223372036854775808) (hn:next≤E):
 Calls Tryz.prog 112 #[.pointer (some ⟨R,0,none⟩),.int .i64 (next:Int),.int .i64 ((E - next:Nat):Int)] w (WkS w base R L (jk E s next)):=by
 obtain⟨ka,kc,rfl⟩:=hK.len;have hgr:=zm w R 5 zcn;have hN:=hR.notT (by rintro(h | h | h) <;> cases h);have HR:=hid (show Row (w.setCell ⟨R,5,none⟩ zcn) R 130 (wkC L zcn (.slice ka s.vs.length kc) U C .nilIface) from hR.set 5 _);have HK:=hid (hK.grown hN hgr);have HU:=hid (hu.same (hgr.block U hu.lt (fun e=>by injection e with e;exact hu.ne (show w.heap[R]?=_ from hR) e)));have q5:=hR.cell 5 rfl;have z5:=hR.fz 5;have hc:=ztm (vs:=s.vs) hli;have Hb:=hid ((Below.refl base w).setCell (p:=⟨R,5,none⟩) hR0 zcn);have Hix:=hid hix
 have hvl:s.vs.length≤9223372036854775807:=by
  obtain⟨_,X,Y,h1,h2,h3,h4,-⟩:=hK;rcases h4.2 with ⟨h',-⟩ | ⟨g,cap,cur,h',hg,hh,hnc,hcm,_⟩
  · injection h' with _ h' _;omega
  · unfold maxLen at hcm;omega
 unfold jk;simp only[hc];clear hR hu hK hgr hN hc hix hli;unfold zcn at HR HK HU Hb;obtain⟨N,hN⟩:∃N,N=s.vs.length:=⟨_,rfl⟩;rw[←hN] at hvl HR HK Hix ⊢;have Hn:=hid hN;have hul:=zhi s.ix N;clear hN;by_cases h1:jd s.ix N<N
 · rw[if_pos h1];have HN:=hid (fun W=>k7 (c:=10) (o:=next) (by decide) W);have hl:=fun k ty=>((HU.out.same (w':=(w.setCell ⟨R,5,none⟩ (.iface 131 (.agg #[]))).drewN k) rfl).len N Hix.out ty)
   have hd1:decide ((jd s.ix N:Int)<(N:Int))=true:=by rw[decide_eq_true_iff];omega
   have hd2:decide (jd s.ix N<N)=true:=by rw[decide_eq_true_iff];omega
   have q6:=fun k=>(show Row ((w.setCell ⟨R,5,none⟩ (.iface 131 (.agg #[]))).drewN k) R 130 _ from HR.out).cell 6 rfl
   have q7:=fun k=>(show Row ((w.setCell ⟨R,5,none⟩ (.iface 131 (.agg #[]))).drewN k) R 130 _ from HR.out).cell 7 rfl
   clear hul h1;generalize jd s.ix N=u at*;go_enter Tryz.func112,Tryz.ntmps112;go_wp2;generalize w.setCell ⟨R,5,none⟩ (.iface 131 (.agg #[]))=w1 at*;go_quiet (fail);go_wp2_with fail;refine(HN.out _).mono ?_;rintro e w' ⟨rfl,rfl⟩;go_wp2_with fail;go_ret;exact⟨zq Hb.out _,rfl,_,HR.out,rfl⟩
 · rw[if_neg h1];have hl:=fun k ty=>((HU.out.same (w':=(w.setCell ⟨R,5,none⟩ (.iface 131 (.agg #[]))).drewN k) rfl).len N Hix.out ty)
   have hd1:decide ((jd s.ix N:Int)<(N:Int))=false:=by rw[decide_eq_false_iff_not];omega
   have hd2:decide (jd s.ix N<N)=false:=by rw[decide_eq_false_iff_not];omega
   have q6:=fun k=>(show Row ((w.setCell ⟨R,5,none⟩ (.iface 131 (.agg #[]))).drewN k) R 130 _ from HR.out).cell 6 rfl
   have q7:=fun k=>(show Row ((w.setCell ⟨R,5,none⟩ (.iface 131 (.agg #[]))).drewN k) R 130 _ from HR.out).cell 7 rfl
   clear hul h1;generalize jd s.ix N=u at*;by_cases h2:next<E
   · rw[if_pos h2];have h3:0<E - next:=by omega
     have HN:=hid (fun W=>k7 (c:=11) (o:=next) (by decide) W);clear h2 hE hn;generalize E - next=d at*
     go_enter Tryz.func112,Tryz.ntmps112;go_wp2;generalize w.setCell ⟨R,5,none⟩ (.iface 131 (.agg #[]))=w1 at*;go_quiet (fail);go_wp2_with fail;refine(HN.out _).mono ?_;rintro e w' ⟨rfl,rfl⟩;go_wp2_with fail;go_ret;exact⟨zq Hb.out _,rfl,_,HR.out,rfl⟩
   · obtain rfl:next=E:=by omega
     rw[if_neg h2,Nat.sub_self];clear h2 hE hn;go_enter Tryz.func112,Tryz.ntmps112;go_wp2;generalize w.setCell ⟨R,5,none⟩ (.iface 131 (.agg #[]))=w1 at*;go_quiet (fail);go_wp2_with fail;go_ret;exact⟨zq Hb.out _,rfl,hR0,_,_,U,C,hU,hC,HR.out,HU.out.same rfl,rfl,HK.out.later (zq (Below.refl _ _) _)⟩
end
section
open Go.RowKit
def KnoS (w:World) (K:Value) (k:Kno):Prop:=∃base vs l ix,SegM w base K vs l ix∧yi l∧k=zx vs l ix
theorem KnoS.steady {w w':World} {K:Value} {k:Kno} (h:KnoS w K k) (hs:Steady 0 yz w w'):KnoS w' K k:=by
 obtain⟨b,vs,l,ix,h1,h2,h3⟩:=h;exact⟨b,vs,l,ix,h1.steady hs,h2,h3⟩
theorem KnoS.later {w w':World} {K:Value} {k:Kno} (h:KnoS w K k) (hb:Below w.heap.size w w'):KnoS w' K k:=h.steady (.of_below hb)
theorem KnoS.frags {w:World} {K:Value} {k:Kno} (h:KnoS w K k):∃a c,K=.slice a k.length c∧Frags w a k.length c k:=by
 obtain⟨b,vs,l,ix,h1,h2,rfl⟩:=h;have e:(zx vs l ix).length=vs.length:=by rw[zcj];simp
 rw[e];exact h1.frags h2
theorem OwnV.add {w:World} {base base':Nat} {V S:Value} {v:Vec} {r m:Nat} {h:List Iv} (hV:OwnV w base V v) (hS:w.ownsRow base' 89 2 S h.length (ivC h)) (hl:yi h) (A:Option Addr) (c:Nat) (hr:Rd w 3 A 1 [.int .u64 (r:Nat),.int .u64 (m:Nat),S]) (hb:v.length+1≤1000000000000) (hbase:base≤w.heap.size):
 ∃V' w',(Builtin.append_ #[95,95] 95 #[V,.slice A 1 c]).run Tryz.prog w=.ok V' w'∧OwnV w' base V' (v++[(r,m,h)])∧w.grownBy w' V.ownBlock∧(∀k,V.ownBlock=some k→base≤k):=by
 obtain⟨ss,ho,hh⟩:=hV;obtain⟨a,cs,rfl,hI⟩:=zj1 (base':=0) hS hl;obtain⟨V',w',h1,h2,h3⟩:=zbu base _ _ _ _ 3 40 Tryz.underlying95 Tryz.info_ent rfl (by omega) V v.length _ ho A 1 c _ hr (by simp[Value.oneCell']) (by unfold maxLen;omega) (by omega) hbase;have hs:Steady base ze4 w w':=.grown ho h3 (show ¬(93:TypeId)=89 by decide);refine⟨V',w',h1,⟨ss++[.slice a h.length cs],?_,(hh.snoc (e:=(r,m,h)) hI).steady (hs.lower (Nat.zero_le _)) rfl⟩,h3,fun k hk=>(ho.lt k hk).1⟩;rw[zj2 hh.1,List.length_append];exact h2
abbrev zuo (L:za):List Value:=[.int .i64 L.1,.int .i64 L.2.1,.int .i64 L.2.2.1,.int .i64 L.2.2.2.1,.int .i64 L.2.2.2.2]
structure RdM (w wi:World) (g:Nat) (B:Value) (E:Nat) (L:za) (cs:Except (Nat×Nat) Nat):Prop where
 grown:w.grownBy wi (some g)
 lim:Row wi w.heap.size 24 (zuo L)
 cur:CurM wi g B E cs
theorem RdM.below {w wi w':World} {g E:Nat} {B:Value} {L:za} {cs:Except (Nat×Nat) Nat} (h:RdM w wi g B E L cs) (hb:Below wi.heap.size wi w'):RdM w w' g B E L cs:=⟨ym h.grown hb,h.lim.later hb,CurM.later h.cur hb⟩
theorem RdM.own {w wi w':World} {g E base sz n:Nat} {B V:Value} {L:za} {cs:Except (Nat×Nat) Nat} {T:TypeId} {xs:List Value} (h:RdM w wi g B E L cs) (ho:wi.ownsRow base T sz V n xs) (hb:w.heap.size≤base) (hT:T≠24∧T≠106) (hg:wi.grownBy w' V.ownBlock):RdM w w' g B E L cs:=
 ⟨zbb h.grown hg fun k hk=>Nat.le_trans hb (ho.lt k hk).1,h.lim.grown hg fun e=>h.lim.ne_own ho (fun e=>hT.1 e.symm) _ e.symm rfl,h.cur.grown hg fun e=>CurM.ne_own h.cur ho (fun e=>hT.2 e.symm) _ e.symm rfl⟩
theorem RdM.move {w wi w':World} {g E:Nat} {B:Value} {L:za} {cs cs':Except (Nat×Nat) Nat} (h:RdM w wi g B E L cs) (hg:wi.grownBy w' (some g)) (hn:some w.heap.size≠some g) (hc:CurM w' g B E cs'):RdM w w' g B E L cs':=⟨zg h.grown hg,h.lim.grown hg hn,hc⟩
structure ItemB (wz w:World) (g cu i n cap E:Nat) (B:Value) (L:za) (cs:Except (Nat×Nat) Nat) (vs:List Vec) (l:List Iv) (ix:List Nat) (all:Value) (la:List Iv) (w':World) (gS m cS:Nat) (S:Value):Prop where
 mem:RdM w w' cu B E L cs
 lo:w.heap.size≤g
 cell:w'.cell? ⟨g,i*2,none⟩=some S
 frozen:w'.frozen? ⟨g,i*2,none⟩=false
 fin:SegB wz (w'.setCell ⟨g,i*2,none⟩ (.slice (some ⟨gS,0,none⟩) m cS)) w.heap.size (.slice (some ⟨g,0,none⟩) n cap) vs l ix all la
 limNe:g≠w.heap.size
 curNe:g≠cu
theorem ItemB.done {wz w w':World} {g cu i n cap E gS m cS:Nat} {B all S:Value} {L:za} {cs:Except (Nat×Nat) Nat} {vs:List Vec} {l la:List Iv} {ix:List Nat} (h:ItemB wz w g cu i n cap E B L cs vs l ix all la w' gS m cS S):RdM w (w'.setCell ⟨g,i*2,none⟩ (.slice (some ⟨gS,0,none⟩) m cS)) cu B E L cs:=
 ⟨zk h.mem.grown (a:=⟨g,i*2,none⟩) _ (.inl h.lo),h.mem.lim.other (a:=⟨g,i*2,none⟩) (fun e=>h.limNe e.symm) _,h.mem.cur.other h.curNe _⟩
end
section
def vsK (c:Kno):List Vec:=c.map (·.2)
theorem zb3 (c:Kno):(vsK c).length=c.length:=by simp[vsK]
theorem zfo {c:Kno} {d:Nat} (hd:d<c.length):(vsK c)[d]'(by rw[zb3];exact hd)=(zf c d).2:=by simp[vsK,yw hd]
theorem zup {c:Kno} (hc:CanK c) {d:Nat} (hd:d<c.length):jc ((vsK c).take d) (zf c d).2=false:=by
 unfold jc
 cases d with
 | zero=>simp
 | succ n=>
  rw[zed (by rw[zb3];omega),zfo (show n<c.length by omega)];have h1:=List.pairwise_iff_getElem.1 hc.asc n (n+1) (by omega) hd (by omega);unfold zdx at h1;rw[←yw (by omega),←yw hd] at h1;simp only[h1]
  rfl
theorem zho {T:zl} {E:Nat} {le lh:Int} (hT:Fwd T) {c:Kno} (hc:CanK c) (hl:LtK c):∀d,d≤c.length→∀{p r:Nat},yt T p (vx c d) r→r≤E→
 ∃r0,T p=.ok (c.length,r0)∧r0+d≤r∧∀k,(∀i,i<d→okV le lh (zf c i).2)→qf T E le lh (d+k) [] r0=qf T E le lh k ((vsK c).take d) r
 | 0,_,p,r,hr,hE=>by
   obtain⟨r0,h1,rfl⟩:=hr
   exact⟨r0,h1,by omega,fun k _=>by rw[List.take_zero,Nat.zero_add]⟩
 | d+1,hd,p,r,hr,hE=>by
   rw[vx] at hr;obtain⟨s,h1,h2⟩:=js.1 hr;have h3:=zba hT h2;have hm:=j8 (show d<c.length from hd);obtain⟨hv,hne⟩:=hc.vec _ hm
   have h4:1≤(zay (zf c d).2).length:=by
    obtain⟨R,e⟩:=zhn (zf c d).2 0 (zf c d).2.length (Nat.zero_le _);unfold zay;rw[e];simp[ky]
   obtain⟨r0,h5,h6,h7⟩:=zho hT hc hl d (by omega) h1 (show s≤E by omega);refine⟨r0,h5,by omega,fun k hk=>?_⟩;rw[show d+1+k=d+(k+1) by omega,h7 (k+1) (fun i hi=>hk i (by omega)),qf,(zl6 hT hv (hl _ hm).vec hne h2 hE).1 (hk d (by omega)),zt,zup hc hd,if_neg (by simp),List.take_succ_eq_append_getElem (by rw[zb3];exact hd),zfo hd]
theorem zml (c:Kno) (i:Nat):∀d,i≤d→∃R,vx c d=vx c i++R
 | 0,h=>⟨[],by rw[show i=0 by omega,List.append_nil]⟩
 | d+1,h=>by
   rcases Nat.lt_or_ge d i with h1 | h1
   · exact⟨[],by rw[show i=d+1 by omega,List.append_nil]⟩
   · obtain⟨R,e⟩:=zml c i d h1;exact⟨R++zay (zf c d).2,by rw[vx,e,List.append_assoc]⟩
theorem jw (L:List Seg):(yg L).length=L.length:=by simp[yg]
theorem zdb (L:List Seg):(yp L).length=L.length:=by simp[yp]
theorem zuq {c:Kno} (hc:CanK c) {d:Nat} (hd:d<(ze c).length):¬(v8 ((yg (ze c)).take d) (zc (yg (ze c)) d).1=true∧((yp (ze c)).take d).getLast?=some (nth (yp (ze c)) d)):=by
 rintro⟨h1,h2⟩
 cases d with
 | zero=>simp at h2
 | succ n=>
  have hp:=List.pairwise_iff_getElem.1 (zkz hc) n (n+1) (by omega) hd (by omega);unfold v8 zp at h1;rw[zed (by rw[jw];omega)] at h1;rw[zed (by rw[zdb];omega)] at h2;have e1:(yg (ze c))[n]'(by rw[jw];omega)=(ze c)[n].1:=by simp[yg]
  have e2:zc (yg (ze c)) (n+1)=(ze c)[n+1].1:=by rw[qo (by rw[jw];exact hd)];simp[yg]
  have e3:(yp (ze c))[n]'(by rw[zdb];omega)=(ze c)[n].2:=by simp[yp]
  have e4:nth (yp (ze c)) (n+1)=(ze c)[n+1].2:=by simp[nth,yp,hd]
  rw[e1,e2] at h1;rw[e3,e4] at h2;simp only[Option.map_some,decide_eq_true_eq] at h1;have:=hp.2 (Option.some.inj h2);omega
theorem zmm {T:zl} {c:Kno} (hc:CanK c) (hl:LtK c):∀d,d≤(ze c).length→∀{p r:Nat},yt T p (ko (yg (ze c)) (yp (ze c)) d) r→
 ∃r0,T p=.ok ((ze c).length,r0)∧∀k,y9 T c.length (d+k) [] [] r0=y9 T c.length k ((yg (ze c)).take d) ((yp (ze c)).take d) r
 | 0,_,p,r,hr=>by
   obtain⟨r0,h1,rfl⟩:=hr;rw[jw] at h1
   exact⟨r0,h1,fun k=>by rw[List.take_zero,List.take_zero,Nat.zero_add]⟩
 | d+1,hd,p,r,hr=>by
   rw[ko] at hr;obtain⟨s,h1,h2⟩:=js.1 hr;obtain⟨t,h3,h4⟩:=js (a:=[jo (yg (ze c)) 0 d,(zc (yg (ze c)) d).2 - (zc (yg (ze c)) d).1]) (b:=[nth (yp (ze c)) d]).1 h2;obtain⟨r',h5,rfl⟩:=h4;obtain⟨r0,h6,h7⟩:=zmm hc hl d (by omega) h1
   have hlt:yi (yg (ze c)):=fun s hs=>by
    obtain⟨p,hp,rfl⟩:=List.mem_map.1 hs;obtain⟨-,-,h3⟩:=za9 c c.length (Nat.le_refl _);exact(hl _ (j8 (h3 p hp).1)).items _ (h3 p hp).2
   obtain⟨w,h8⟩:=zl1 (l:=yg (ze c)) (a:=0) (zs2 hc) hlt (by rw[jw];exact hd) h3;refine⟨r0,h6,fun k=>?_⟩;rw[show d+1+k=d+(k+1) by omega,h7 (k+1),y9,h8,zt];unfold kz;have hx:nth (yp (ze c)) d<c.length:=zla (k:=c) hd;rw[zcl h5,zt,if_neg (by omega),if_neg (zuq hc hd),List.take_succ_eq_append_getElem (by rw[jw];exact hd),List.take_succ_eq_append_getElem (by rw[zdb];exact hd)]
   have e:nth (yp (ze c)) d=(yp (ze c))[d]'(by rw[zdb];exact hd):=by
    unfold nth;rw[List.getD_eq_getElem?_getD,List.getElem?_eq_getElem (by rw[zdb];exact hd)]
    rfl
   rw[qo (by rw[jw];exact hd),e]
structure okK (L:za) (c:Kno):Prop where
 vecs:okC c.length L.2.1
 vec:∀i,i<c.length→okV L.2.2.1 L.2.2.2.1 (zf c i).2
 segs:okC (ze c).length L.2.2.2.2
theorem zur {c:Kno} (hc:CanK c):zx (vsK c) (yg (ze c)) (yp (ze c))=c:=by
 have h:=zsn hc;unfold zx yp;rw[List.map_map];exact h
theorem zus {c:Kno} (hc:CanK c) (E z:Nat):jp E c z=if z<E then .error (11,z) else .ok (c,z):=by
 unfold jp;rw[if_neg (by rintro⟨f,hf,h⟩;exact(hc.items f hf).2 h)]
theorem zut {T:zl} (hT:Fwd T) {E p z:Nat} {L:za} {c:Kno} (hc:CanK c) (hl:LtK c) (hr:yt T p (jj c) z) (hz:z≤E):
 (okK L c→yd T E L p=if z<E then .error (11,z) else .ok (c,z))∧(¬okK L c→∃w,yd T E L p=.error (7,w)):=by
 have hr':=hr;unfold jj at hr';obtain⟨s,h1,h2⟩:=js.1 hr';have h2':yt T s (ko (yg (ze c)) (yp (ze c)) (ze c).length) z:=h2;have h3:=zba hT h2;rw[zhc] at h3;obtain⟨r0,a1,a2,a3⟩:=zho (E:=E) (le:=L.2.2.1) (lh:=L.2.2.2.1) hT hc hl c.length (Nat.le_refl _) h1 (by omega);obtain⟨q0,b1,b2⟩:=zmm hc hl (ze c).length (Nat.le_refl _) h2';have hb:=b2 0;rw[Nat.add_zero,y9,List.take_of_length_le (by rw[jw];exact Nat.le_refl _),List.take_of_length_le (by rw[zdb];exact Nat.le_refl _)] at hb
 have hq:q0+(ze c).length≤E:=by
  cases hS:(ze c).length with
  | zero=>rw[hS] at h2';obtain⟨r,e1,rfl⟩:=h2';rw[b1] at e1;injection e1 with e;injection e with _ e;omega
  | succ n=>
   obtain⟨R,e⟩:∃R,ko (yg (ze c)) (yp (ze c)) (ze c).length=[(yg (ze c)).length]++R:=by
    have:∀d,∃R,ko (yg (ze c)) (yp (ze c)) d=[(yg (ze c)).length]++R:=by
     intro d
     induction d with
     | zero=>exact⟨[],rfl⟩
     | succ d ih=>obtain⟨R,e⟩:=ih;exact⟨_,by rw[ko,e,List.append_assoc]⟩
    exact this _
   have hln:=zhc (yg (ze c)) (yp (ze c)) (ze c).length;rw[e] at h2' hln;obtain⟨t,⟨t',e1,rfl⟩,e2⟩:=js.1 h2';have e3:=zba hT e2;rw[b1] at e1;injection e1 with e1;injection e1 with _ e1;simp only[List.length_append,List.length_cons,List.length_nil] at hln;omega
 by_cases k1:okC c.length L.2.1
 · by_cases k2:∀i,i<c.length→okV L.2.2.1 L.2.2.2.1 (zf c i).2
   · have hv:=a3 0 k2;rw[Nat.add_zero,qf,List.take_of_length_le (by rw[zb3];exact Nat.le_refl _)] at hv;by_cases k3:okC (ze c).length L.2.2.2.2
     · refine⟨fun _=>?_,fun h=>absurd ⟨k1,k2,k3⟩ h⟩;unfold yd kd;rw[zcm a1 k1 (by omega),zt,hv,zt,zcm b1 k3 hq,zt,zb3,hb,zt];simp only;rw[zur hc,zus hc]
     · refine⟨fun h=>absurd h.segs k3,fun _=>⟨s,?_⟩⟩;unfold yd kd;rw[zcm a1 k1 (by omega),zt,hv,zt,zfm b1 k3,zai]
   · refine⟨fun h=>absurd h.vec k2,fun _=>?_⟩;have:DecidablePred fun i=>okV L.2.2.1 L.2.2.2.1 (zf c i).2:=fun i=>Classical.propDecidable _
     obtain⟨i,hi,hbad,hlt⟩:=zl5 (P:=fun i=>okV L.2.2.1 L.2.2.2.1 (zf c i).2) k2;obtain⟨R,e⟩:=zml c (i+1) c.length hi;have h1':=h1;rw[e] at h1';obtain⟨t,g1,g2⟩:=js.1 h1';have g3:=zba hT g2;rw[vx] at g1;obtain⟨u,g4,g5⟩:=js.1 g1;have g6:=zba hT g5;obtain⟨r0',a1',-,a3'⟩:=zho (E:=E) (le:=L.2.2.1) (lh:=L.2.2.2.1) hT hc hl i (by omega) g4 (by omega);obtain rfl:r0'=r0:=by rw[a1] at a1';injection a1' with h;injection h with _ h;exact h.symm
     have hm:=j8 hi;obtain⟨w,hw⟩:=(zl6 (E:=E) hT (hc.vec _ hm).1 (hl _ hm).vec (hc.vec _ hm).2 g5 (by omega)).2 hbad;have:=a3' (c.length - i) hlt;rw[show i+(c.length - i)=c.length by omega,show c.length - i=(c.length - i - 1)+1 by omega,qf,hw,zai] at this
     exact⟨w,by
      unfold yd;rw[zcm a1 k1 (by omega),zt,this,zai]⟩
 · refine⟨fun h=>absurd h.vecs k1,fun _=>⟨p,?_⟩⟩;unfold yd;rw[zfm a1 k1,zai]
def T64 (T:zl):Prop:=∀p x q,T p=.ok (x,q)→x<18446744073709551616
theorem qv {α β:Type} {a:RR α} {f:α→Nat→RR β} {y:β×Nat} (h:thn a f=.ok y):∃x q,a=.ok (x,q)∧f x q=.ok y:=by
 cases a with
 | error e=>cases h
 | ok z=>exact⟨z.1,z.2,rfl,h⟩
theorem zb4 {T:zl} {p x q:Nat} (h:nmP T p=.ok (x,q)):T p=.ok (x,q):=by
 unfold nmP at h
 cases hT:T p with
 | error c=>rw[hT] at h;cases h
 | ok y=>rw[hT] at h;cases h;rfl
theorem zee {T:zl} {E p x q:Nat} {lim:Int} (h:zv T E lim p=.ok (x,q)):T p=.ok (x,q)∧okC x lim:=by
 unfold zv at h;obtain⟨y,r,h1,h2⟩:=qv h;split at h2
 · rename_i h3;cases h2;refine⟨zb4 h1,?_⟩;unfold zo at h3;unfold okC;split at h3
   · cases h3
   · rename_i h4;rcases Nat.eq_zero_or_pos x with h5 | h5
     · exact .inr h5
     · exact .inl (by
        by_cases h6:lim<(x:Int)
        · exact absurd ⟨h6,by omega⟩ h4
        · omega)
 · cases h2
theorem kt {l:List Iv} {t:List Iv} {i:Nat} (h:i<l.length):zc (l++t) i=zc l i:=by
 rw[qo h,qo (by rw[List.length_append];omega),List.getElem_append_left h]
theorem zef (l:List Iv) (s:Iv):zc (l++[s]) l.length=s:=by
 rw[qo (by simp)];simp
theorem zmn (l t:List Iv) (a:Nat):∀d,d≤l.length→jr (l++t) a d=jr l a d
 | 0,_=>rfl
 | d+1,h=>by
   rw[jr,jr,zmn l t a d (by omega),kt h]
   have:jo (l++t) a d=jo l a d:=by
    unfold jo;rw[kt (by omega),kt (i:=d) h,kt (by omega)]
   rw[this]
theorem zmo (l:List Iv):zp l=if l.length=0 then none else some (zc l (l.length - 1)).2:=by
 unfold zp;rw[List.getLast?_eq_getElem?]
 cases h:l.length with
 | zero=>rw[List.length_eq_zero_iff.1 h];rfl
 | succ n=>rw[if_neg (by omega),show n+1 - 1=n by omega,List.getElem?_eq_getElem (by omega),qo (by omega)];rfl
theorem zmp {T:zl} {l:List Iv} {a p q w:Nat} {s:Iv} (hT:T64 T) (hD:zaf l a) (hl:yi l) (h:ivP T (zp l) a p=.ok ((s,w),q)):
 zaf (l++[s]) a∧yi (l++[s])∧yt T p [jo (l++[s]) a l.length,s.2 - s.1] q:=by
 unfold ivP at h;obtain⟨x,r,h1,h2⟩:=qv h;have t1:=zb4 h1;have x64:=hT _ _ _ t1
 cases hlo:loP (zp l) a x with
 | none=>rw[hlo] at h2;cases h2
 | some lo=>
  rw[hlo] at h2;simp only[hiP] at h2;obtain⟨y,r',h3,h4⟩:=qv h2;have t2:=zb4 h3;split at h4
  · rename_i hb;cases h4
    have hg:jo (l++[(lo,lo+y)]) a l.length=x∧(0<l.length→(zc l (l.length - 1)).2+1+a≤lo)∧lo<18446744073709551616:=by
     rw[zmo] at hlo;unfold jo;rcases Nat.eq_zero_or_pos l.length with h0 | h0
     · rw[if_pos h0] at hlo;cases hlo;rw[if_pos h0];have:l=[]:=List.length_eq_zero_iff.1 h0;subst this;exact⟨rfl,fun h=>by simp at h,x64⟩
     · rw[if_neg (by omega)] at hlo;simp only[loP] at hlo;split at hlo
       · cases hlo;rw[if_neg (by omega),zef,kt (by omega)];exact⟨by simp only;omega,fun _=>by omega,by assumption⟩
       · cases hlo
    refine⟨fun i hi=>?_,fun t ht=>?_,⟨_,by rw[hg.1];exact t1,_,by rw[show (lo,lo+y).2 - (lo,lo+y).1=y by simp only;omega];exact t2,rfl⟩⟩
    · rw[List.length_append,List.length_cons,List.length_nil] at hi;rcases Nat.lt_or_ge i l.length with h5 | h5
      · rw[kt h5];refine⟨(hD i h5).1,fun h0=>?_⟩;rw[kt (by omega)];exact(hD i h5).2 h0
      · obtain rfl:i=l.length:=by omega
        rw[zef];refine⟨by simp only;omega,fun h0=>?_⟩;rw[kt (by omega)];exact hg.2.1 h0
    · rcases List.mem_append.1 ht with ht | ht
      · exact hl t ht
      · simp at ht;subst ht;exact⟨hg.2.2,hb⟩
  · cases h4
theorem zmq {T:zl} {mx:Nat} (hT:T64 T):∀(n:Nat) (acc:List Iv) {p q:Nat} {h:List Iv},qa T mx n acc p=.ok (h,q)→zaf acc 1→yi acc→(∀s∈acc,s.2<mx)→
 ∀{P0:Nat},yt T P0 (jr acc 1 acc.length) p→yt T P0 (jr h 1 h.length) q∧zaf h 1∧yi h∧(∀s∈h,s.2<mx)∧h.length=acc.length+n
 | 0,acc,p,q,h,hh,hD,hl,hm,P0,hr=>by cases hh;exact⟨hr,hD,hl,hm,rfl⟩
 | n+1,acc,p,q,h,hh,hD,hl,hm,P0,hr=>by
   rw[qa] at hh;obtain⟨⟨s,w⟩,r,h1,h2⟩:=qv hh;obtain⟨d1,d2,d3⟩:=zmp hT hD hl h1;unfold kq at h2;split at h2
   · cases h2
   · rename_i h3;simp only at h3 h2
     obtain⟨e1,e2,e3,e4,e5⟩:=zmq hT n (acc++[s]) h2 d1 d2 (fun t ht=>by
      rcases List.mem_append.1 ht with ht | ht
      · exact hm t ht
      · simp at ht;subst ht;omega) (P0:=P0) (by
      rw[List.length_append,List.length_cons,List.length_nil,Nat.zero_add,jr,zmn acc [s] 1 acc.length (Nat.le_refl _),zef];exact js.2 ⟨p,hr,d3⟩)
     refine⟨e1,e2,e3,e4,?_⟩;rw[e5,List.length_append,List.length_cons,List.length_nil];omega
theorem zuu {l:List Iv} (h:zaf l 1):Good l:=zgn fun i hi=>⟨(h i hi).1,fun h0=>by have:=(h i hi).2 h0;omega⟩
def zbc (v:Vec):Nat→List Nat
 | 0=>[]
 | d+1=>zbc v d++zag v d
theorem zmr (v:Vec):∀d,ky v d=v.length :: zbc v d
 | 0=>rfl
 | d+1=>by rw[ky,zbc,zmr v d];rfl
theorem zeg {v t:Vec} {i:Nat} (h:i<v.length):zi (v++t) i=zi v i:=by
 rw[vz h,vz (by rw[List.length_append];omega),List.getElem_append_left h]
theorem zhp (v:Vec) (e:Ent):zi (v++[e]) v.length=e:=by
 rw[vz (by simp)];simp
theorem zms (v t:Vec):∀d,d≤v.length→zbc (v++t) d=zbc v d
 | 0,_=>rfl
 | d+1,h=>by
   rw[zbc,zbc,zms v t d (by omega)]
   have:zag (v++t) d=zag v d:=by
    unfold zag zbz;rw[zeg (i:=d) h,zeg (i:=0) (by omega),zeg (i:=d - 1) (by omega)]
   rw[this]
theorem zuv (v:Vec):v.getLast?=if v.length=0 then none else some (zi v (v.length - 1)):=by
 rw[List.getLast?_eq_getElem?]
 cases h:v.length with
 | zero=>rw[List.length_eq_zero_iff.1 h];rfl
 | succ n=>rw[if_neg (by omega),show n+1 - 1=n by omega,List.getElem?_eq_getElem (by omega),vz (by omega)]
theorem zuw {T:zl} {E:Nat} {lim:Int} (hT:T64 T) {v:Vec} {e:Ent} {p q:Nat} (h:qr T E lim v p=.ok (e,q)):
 yt T p (zag (v++[e]) v.length) q∧CanE e∧LtE e∧okC e.2.2.length lim∧(0<v.length→(zi v (v.length - 1)).1<e.1):=by
 unfold qr at h;obtain⟨x,r,h1,h2⟩:=qv h;have t1:=zb4 h1
 cases hr:jv v x with
 | none=>rw[hr] at h2;cases h2
 | some rp=>
  rw[hr] at h2;simp only[zao] at h2;obtain⟨mx,r2,h3,h4⟩:=qv h2;have t2:=zb4 h3;unfold za0 at h4;obtain⟨n,r3,h5,h6⟩:=qv h4;obtain⟨t3,hc⟩:=zee h5;obtain⟨hl,r4,h7,h8⟩:=qv h6;cases h8;obtain⟨e1,e2,e3,e4,e5⟩:=zmq hT n [] h7 (fun i hi=>(by simp at hi)) (fun t ht=>(by cases ht)) (fun t ht=>(by cases ht)) (P0:=r3) rfl;have hn:hl.length=n:=by simpa using e5
  have hg:=zuu e2
  have hrep:zbz (v++[(rp,mx,hl)]) v.length=x∧rp<18446744073709551616∧(0<v.length→(zi v (v.length - 1)).1<rp):=by
   have x64:=hT _ _ _ t1;unfold jv at hr;rw[zuv] at hr;unfold zbz;rcases Nat.eq_zero_or_pos v.length with h0 | h0
   · rw[if_pos h0] at hr;cases hr;rw[if_pos h0];have:v=[]:=List.length_eq_zero_iff.1 h0;subst this;exact⟨rfl,x64,fun h=>by simp at h⟩
   · rw[if_neg (by omega)] at hr;simp only at hr;split at hr
     · cases hr;rw[if_neg (by omega),zhp,zeg (by omega)];exact⟨by simp only;omega,by assumption,fun _=>by omega⟩
     · cases hr
  refine⟨?_,⟨hg,fun s hs=>Nat.le_of_lt (e4 s hs),?_⟩,⟨hrep.2.1,hT _ _ _ t2,e3⟩,by simp only[hn];exact hc,hrep.2.2⟩
  · unfold zag;rw[hrep.1,zhp];refine js.2 ⟨r3,⟨r,t1,r2,t2,r3,by simp only[hn];exact t3,rfl⟩,e1⟩
  · cases hm:mem hl mx with
    | false=>rfl
    | true=>
     obtain⟨s,hs,a1,a2⟩:=mem_iff.1 hm;have:=e4 s hs;omega
structure EInv (lim:Int) (v:Vec):Prop where
 can:CanV v
 lt:LtV v
 lim:∀i,i<v.length→okC (zi v i).2.2.length lim
theorem zmt {T:zl} {E:Nat} {lim:Int} (hT:T64 T):∀(n:Nat) (acc:Vec) {p q:Nat} {v:Vec},y8 T E lim n acc p=.ok (v,q)→EInv lim acc→
 ∀{P0:Nat},yt T P0 (zbc acc acc.length) p→yt T P0 (zbc v v.length) q∧EInv lim v∧v.length=acc.length+n
 | 0,acc,p,q,v,h,hI,P0,hr=>by cases h;exact⟨hr,hI,rfl⟩
 | n+1,acc,p,q,v,h,hI,P0,hr=>by
   rw[y8] at h;obtain⟨e,r,h1,h2⟩:=qv h;obtain⟨a1,a2,a3,a4,a5⟩:=zuw hT h1
   obtain⟨b1,b2,b3⟩:=zmt hT n (acc++[e]) h2 ⟨⟨List.pairwise_append.2 ⟨hI.can.asc,List.pairwise_singleton _ _,fun x hx y hy=>by
    simp at hy;subst hy;obtain⟨i,hi,rfl⟩:=List.getElem_of_mem hx;have h3:=a5 (by omega);unfold zdw;rcases Nat.lt_or_ge i (acc.length - 1) with h4 | h4
    · have h5:=List.pairwise_iff_getElem.1 hI.can.asc i (acc.length - 1) hi (by omega) h4;unfold zdw at h5;rw[vz (by omega)] at h3;omega
    · rw[vz (by omega)] at h3;have e':i=acc.length - 1:=by omega
      subst e';exact h3⟩,fun x hx=>by
    rcases List.mem_append.1 hx with hx | hx
    · exact hI.can.ent x hx
    · simp at hx;subst hx;exact a2⟩,fun x hx=>by
    rcases List.mem_append.1 hx with hx | hx
    · exact hI.lt x hx
    · simp at hx;subst hx;exact a3,fun i hi=>by
    rw[List.length_append,List.length_cons,List.length_nil] at hi;rcases Nat.lt_or_ge i acc.length with h4 | h4
    · rw[zeg h4];exact hI.lim i h4
    · obtain rfl:i=acc.length:=by omega
      rw[zhp];exact a4⟩ (P0:=P0) (by
    rw[List.length_append,List.length_cons,List.length_nil,Nat.zero_add,zbc,zms acc [e] acc.length (Nat.le_refl _)];exact js.2 ⟨p,hr,a1⟩)
   refine⟨b1,b2,?_⟩;rw[b3,List.length_append,List.length_cons,List.length_nil];omega
theorem zux {T:zl} {E:Nat} {le lh:Int} (hT:T64 T) {v:Vec} {p q:Nat} (h:jb T E le lh p=.ok (v,q)):yt T p (zay v) q∧CanV v∧LtV v∧v≠[]∧okV le lh v:=by
 unfold jb at h;obtain⟨n,r,h1,h2⟩:=qv h;obtain⟨t1,hc⟩:=zee h1;split at h2
 · cases h2
 · rename_i h0;obtain⟨b1,b2,b3⟩:=zmt hT n [] h2 ⟨⟨List.Pairwise.nil,fun e he=>(by cases he)⟩,fun e he=>(by cases he),fun i hi=>(by simp at hi)⟩ (P0:=r) rfl;have hn:v.length=n:=by simpa using b3
   refine⟨?_,b2.can,b2.lt,fun e=>h0 (by rw[←hn,e];rfl),by rw[hn];exact hc,b2.lim⟩;unfold zay;rw[zmr,hn];exact⟨r,t1,by rw[←hn];exact b1⟩
