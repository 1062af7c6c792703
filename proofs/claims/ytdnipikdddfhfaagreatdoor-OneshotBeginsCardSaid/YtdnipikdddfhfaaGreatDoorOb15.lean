/- Part 15. -/
import Derived.Test.YtdnipikdddfhfaaGreatDoorOb14
set_option linter.unusedVariables false
set_option maxHeartbeats 16000000
namespace Go.Proofs.YtdnipikdddfhfaaGreatDoor
open Lib (hid)
section
open Go.RowKit
attribute [local go_sem] qj
def wkC (L:za) (part K:Value) (U C:Nat) (err:Value):List Value:=
 [.int .i64 L.1,.int .i64 L.2.1,.int .i64 L.2.2.1,.int .i64 L.2.2.2.1,.int .i64 L.2.2.2.2,part,K,.map (some U),.pointer (some ⟨C,0,none⟩),err]
def zbc:Value:=.iface 131 (.agg #[])
def vcC (left:Nat) (frm:Int) (ip:Value):List Value:=[.int .u64 (left:Int),.int .i64 frm,ip]
def sgC (left turn:Nat) (last:Int) (touch:Bool):List Value:=[.int .u64 (left:Int),.int .i64 (turn:Int),.int .i64 last,.bool touch]
def VecAt (w:World) (base R:Nat) (L:za) (K:Value) (U C B:Nat) (s:WS):Prop:=
 (s.inner=ps0∧(∃ip,Row w B 199 (vcC s.left (-1) ip))∧KV w base K s.vs)∨
 (1≤s.inner.tag∧∃P pb wb,Row w B 199 (vcC s.left (s.frm:Int) (.pointer (some ⟨P,0,none⟩)))∧KV wb base K s.vs∧Steady 0 qh wb w∧wb.heap.size≤pb∧base≤pb∧R<pb∧U<pb∧C<pb∧B<pb∧PkR w pb P L (pkF P s.inner.tag) s.inner)
def cuC (C lo0:Nat) (s:WS):List Value:=match s.turn with | 0=>ym C 0 lo0 s.l.getLast? false | 1=>ym C 0 s.lo s.l.getLast? true | _=>ym C 0 lo0 (some (s.lo,s.hi)) false
def zr7 (w:World) (C B:Nat) (s:WS):Prop:=
 ∃(last:Int) (touch:Bool) (lo0:Nat),Row w B 204 (sgC s.left s.turn last touch)∧(∀x,s.ix.getLast?=some x→last=(x:Int))∧(1≤s.turn→touch=s.tch)∧
  Row w C 193 (cuC C lo0 s)
def WkB (w:World) (base R:Nat) (L:za) (s:WS) (part K:Value) (U C:Nat):Prop:=
 match s.tag with
 | 0=>part=.iface 123 (.agg #[])∧KV w base K s.vs∧Row w C 193 (ym C 0 0 none false)
 | 1=>∃B,part=.iface 196 (.pointer (some ⟨B,0,none⟩))∧base≤B∧Row w C 193 (ym C 0 0 none false)∧VecAt w base R L K U C B s
 | 2=>part=.iface 200 (.agg #[])∧KV w base K s.vs∧Row w C 193 (ym C 0 0 none false)
 | 3=>∃B,part=.iface 202 (.pointer (some ⟨B,0,none⟩))∧base≤B∧SegM w base K s.vs s.l s.ix∧zr7 w C B s
 | _=>part=zbc∧SegM w base K s.vs s.l s.ix
def WkR (w:World) (base R:Nat) (L:za) (s:WS):Prop:=
 base≤R∧∃part K U C,base≤U∧base≤C∧Row w R 130 (wkC L part K U C .nilIface)∧UsedM w U s.ix∧WkB w base R L s part K U C
def jg (c o:Nat):Value:=.iface 112 (.agg #[.int .i64 (c:Int),.int .i64 (o:Int)])
theorem zr8 {c o:Nat} (h:c≠0):zh (zbk (c:Int) (o:Int))=jg c o:=by
 unfold zbk;rw[if_neg (by omega)]
 rfl
def WkS (w:World) (base R:Nat) (L:za) (r:Except (Nat×Nat) WS) (e:Ending) (w':World):Prop:=
 Below base w w'∧match r with
 | .error x=>e=.returned (jg x.1 x.2)∧∃C,Row w' R 130 C∧C.length=10
 | .ok s'=>e=.returned .nilIface∧WkR w' base R L s'
theorem vd {c o:Nat} (h:c≠0) (w:World):Calls Tryz.prog 82 #[.int .i64 (c:Int),.int .i64 (o:Int)] w fun e w'=>e=.returned (jg c o)∧w=w':=
 (qm (c:Int) (o:Int) w).mono fun e w' ⟨h1,h2⟩=>⟨by rw[h1,zr8 h],h2⟩
theorem zj6 (x:Nat) (lim:Int) (rest:Nat) (w:World) (hx:x<18446744073709551616) (hl:I64 lim) (hr:rest<9223372036854775808):
 Calls Tryz.prog 110 #[.int .u64 (x:Int),.int .i64 lim,.int .i64 (rest:Int)] w fun e w'=>e=.returned (.int .i64 ((zl x lim rest:Nat):Int))∧w=w':=by
 have hc:=zjq x lim rest;obtain⟨l1,l2⟩:=hl;generalize zl x lim rest=c at*;have Hx:=hid hx;clear hx;by_cases hneg:lim<0
 · have e0:max lim 0=0:=by omega
   rw[e0] at hc;clear e0;rcases hc with ⟨h1,rfl⟩ | ⟨h1,h2,rfl⟩ | ⟨h1,h2,rfl⟩
   · have h1':0<x:=by omega
     clear h1;go_enter Tryz.func110,Tryz.ntmps110;go_wp2_with fail;go_ret;exact⟨rfl,rfl⟩
   · have h1':x=0:=by omega
     omega
   · obtain rfl:x=0:=by omega
     go_enter Tryz.func110,Tryz.ntmps110;go_wp2_with fail;go_ret;exact⟨rfl,rfl⟩
 · obtain⟨m,rfl⟩:=Int.eq_ofNat_of_zero_le (show 0≤lim by omega);have e0:max (m:Int) 0=(m:Int):=by omega
   rw[e0] at hc;clear e0;rcases hc with ⟨h1,rfl⟩ | ⟨h1,h2,rfl⟩ | ⟨h1,h2,rfl⟩
   · have h1':m<x:=by omega
     clear h1;go_enter Tryz.func110,Tryz.ntmps110;go_wp2_with fail;go_ret;exact⟨rfl,rfl⟩
   · have h1':¬m<x:=by omega
     clear h1;go_enter Tryz.func110,Tryz.ntmps110;go_wp2_with fail;go_ret;exact⟨rfl,rfl⟩
   · have h1':¬m<x:=by omega
     clear h1;go_enter Tryz.func110,Tryz.ntmps110;go_wp2_with fail;go_ret;exact⟨rfl,rfl⟩
set_option maxRecDepth 20000 in
theorem zj7 (base R:Nat) (L:za) (s:WS) (part K:Value) (U C E next:Nat) (w:World) (hR0:base≤R) (hU:base≤U) (hC:base≤C) (hR:Row w R 130 (wkC L part K U C .nilIface)) (hu:UsedM w U s.ix) (hK:SegM w base K s.vs s.l s.ix)
 (hli:s.ix.length=s.l.length) (hix:∀i∈s.ix,i<s.vs.length) (hE:E - next<9223372036854775808) (hn:next≤E):
 Calls Tryz.prog 112 #[.pointer (some ⟨R,0,none⟩),.int .i64 (next:Int),.int .i64 ((E - next:Nat):Int)] w (WkS w base R L (qu E s next)):=by
 obtain⟨ka,kc,rfl⟩:=hK.len;have hgr:=jt w R 5 zbc;have hN:=hR.notT (by rintro(h | h | h) <;> cases h);have HR:=hid (show Row (w.setCell ⟨R,5,none⟩ zbc) R 130 (wkC L zbc (.slice ka s.vs.length kc) U C .nilIface) from hR.set 5 _);have HK:=hid (hK.grown hN hgr);have HU:=hid (hu.same (hgr.block U hu.lt (fun e=>by injection e with e;exact hu.ne (show w.heap[R]?=_ from hR) e)));have q5:=hR.cell 5 rfl;have z5:=hR.fz 5;have hc:=zq7 (vs:=s.vs) hli;have Hb:=hid ((Below.refl base w).setCell (p:=⟨R,5,none⟩) hR0 zbc);have Hix:=hid hix
 have hvl:s.vs.length≤9223372036854775807:=by
  obtain⟨_,X,Y,h1,h2,h3,h4,-⟩:=hK;rcases h4.2 with ⟨h',-⟩ | ⟨g,cap,cur,h',hg,hh,hnc,hcm,_⟩
  · injection h' with _ h' _;omega
  · unfold maxLen at hcm;omega
 unfold qu;simp only[hc];clear hR hu hK hgr hN hc hix hli;unfold zbc at HR HK HU Hb;obtain⟨N,hN⟩:∃N,N=s.vs.length:=⟨_,rfl⟩;rw[←hN] at hvl HR HK Hix ⊢;have Hn:=hid hN;have hul:=zfz s.ix N;clear hN;by_cases h1:qa s.ix N<N
 · rw[if_pos h1];have HN:=hid (fun W=>vd (c:=10) (o:=next) (by decide) W);have hl:=fun k ty=>((HU.out.same (w':=(w.setCell ⟨R,5,none⟩ (.iface 131 (.agg #[]))).drewN k) rfl).len N Hix.out ty)
   have hd1:decide ((qa s.ix N:Int)<(N:Int))=true:=by rw[decide_eq_true_iff];omega
   have hd2:decide (qa s.ix N<N)=true:=by rw[decide_eq_true_iff];omega
   have q6:=fun k=>(show Row ((w.setCell ⟨R,5,none⟩ (.iface 131 (.agg #[]))).drewN k) R 130 _ from HR.out).cell 6 rfl
   have q7:=fun k=>(show Row ((w.setCell ⟨R,5,none⟩ (.iface 131 (.agg #[]))).drewN k) R 130 _ from HR.out).cell 7 rfl
   clear hul h1;generalize qa s.ix N=u at*;go_enter Tryz.func112,Tryz.ntmps112;go_wp2;generalize w.setCell ⟨R,5,none⟩ (.iface 131 (.agg #[]))=w1 at*;go_quiet (fail);go_wp2_with fail;refine(HN.out _).mono ?_;rintro e w' ⟨rfl,rfl⟩;go_wp2_with fail;go_ret;exact⟨zv Hb.out _,rfl,_,HR.out,rfl⟩
 · rw[if_neg h1];have hl:=fun k ty=>((HU.out.same (w':=(w.setCell ⟨R,5,none⟩ (.iface 131 (.agg #[]))).drewN k) rfl).len N Hix.out ty)
   have hd1:decide ((qa s.ix N:Int)<(N:Int))=false:=by rw[decide_eq_false_iff_not];omega
   have hd2:decide (qa s.ix N<N)=false:=by rw[decide_eq_false_iff_not];omega
   have q6:=fun k=>(show Row ((w.setCell ⟨R,5,none⟩ (.iface 131 (.agg #[]))).drewN k) R 130 _ from HR.out).cell 6 rfl
   have q7:=fun k=>(show Row ((w.setCell ⟨R,5,none⟩ (.iface 131 (.agg #[]))).drewN k) R 130 _ from HR.out).cell 7 rfl
   clear hul h1;generalize qa s.ix N=u at*;by_cases h2:next<E
   · rw[if_pos h2];have h3:0<E - next:=by omega
     have HN:=hid (fun W=>vd (c:=11) (o:=next) (by decide) W);clear h2 hE hn;generalize E - next=d at*
     go_enter Tryz.func112,Tryz.ntmps112;go_wp2;generalize w.setCell ⟨R,5,none⟩ (.iface 131 (.agg #[]))=w1 at*;go_quiet (fail);go_wp2_with fail;refine(HN.out _).mono ?_;rintro e w' ⟨rfl,rfl⟩;go_wp2_with fail;go_ret;exact⟨zv Hb.out _,rfl,_,HR.out,rfl⟩
   · obtain rfl:next=E:=by omega
     rw[if_neg h2,Nat.sub_self];clear h2 hE hn;go_enter Tryz.func112,Tryz.ntmps112;go_wp2;generalize w.setCell ⟨R,5,none⟩ (.iface 131 (.agg #[]))=w1 at*;go_quiet (fail);go_wp2_with fail;go_ret;exact⟨zv Hb.out _,rfl,hR0,_,_,U,C,hU,hC,HR.out,HU.out.same rfl,rfl,HK.out.later (zv (Below.refl _ _) _)⟩
end
section
open Go.ChangeShapes Go.WideShapes Go.RowKit Go.ChangeAt
abbrev LD:List (String×DataW Unit):=Rows.wireDecodesRow.laid
theorem zr9 {W:World} (h:laidMetH Tryz.prog LD W):laidMet Tryz.prog (LD.filter fun x=>x.2.handleName?.isNone) W∧handlesMet Tryz.prog [("errors.errorType",Rows.laid_errors_errorType)] W:=h
theorem zsa {W:World} (h:laidMetH Tryz.prog LD W):Door W:=zo3 (zr9 h).2
theorem zsb (os:Os) (args:Array Value):laidMetH Tryz.prog LD ((zdz os).forCall (fun _ _=>0) ⟨#[],args,[]⟩).memory:=
 laidMetH_of_parts (laidMet_of_run3 8 (by kernel_rfl) (by kernel_rfl) (by kernel_rfl)) (by kernel_rfl)
theorem zsc {z:Int} (h:(Lit.int .u16 z).wf=true):∃n:Nat,z=n∧n<65536:=by
 have h':=bounds_u16 h;exact⟨z.toNat,by omega,by omega⟩
theorem zsd {H:Type} {enc:TypeId×Value→H} {W:World} {fuel n cap:Nat} {a:Option Addr} {x:DataW H×List MemPlace} (h:DataW.trod enc Tryz.prog W 0 (fun _=>true) true fuel 22 (Value.slice a n cap).cells.toList=some x):∃l,Byts W a n cap l:=by
 rcases open_ints Tryz.underlying22 Tryz.underlying5 (by kernel_rfl) h with ⟨hcs,_⟩ | ⟨x,l,c,zs,hcs,_,hl,hm,hz,_,hcell,hwz⟩
 · simp[Value.cells] at hcs;obtain⟨rfl,rfl,rfl⟩:=hcs;exact⟨_,zgy (.inl ⟨rfl,rfl,rfl,rfl⟩)⟩
 · simp[Value.cells] at hcs;obtain⟨rfl,rfl,rfl⟩:=hcs;exact⟨_,zgy (.inr ⟨_,rfl,hl,hm,by simpa using hz,hcell,hwz⟩)⟩
set_option maxRecDepth 100000 in
theorem zse {H:Type} {enc:TypeId×Value→H} {W:World} {fuel:Nat} {v:Value} {x:DataW H×List MemPlace} (hv:∃cs,v=.agg cs∧cs.size=Tryz.prog.cellsOf 24)
 (h:DataW.trod enc Tryz.prog W 0 (fun _=>true) true fuel 24 v.cells.toList=some x):∃l:za,v=lmV l∧LimsI l:=by
 obtain⟨cs,rfl,hs⟩:=hv;have h5:Tryz.prog.cellsOf 24=5:=by kernel_rfl
 have h1:Tryz.prog.cellsOf 3=1:=by kernel_rfl
 rw[h5] at hs;obtain⟨l⟩:=cs;have hs':l.length=5:=hs;have h':DataW.trod enc Tryz.prog W 0 (fun _=>true) true fuel 24 l=some x:=h;obtain⟨xs,n,-,-,-,hxl,hf⟩:=DataW.trod_struct Tryz.underlying24 h'
 match xs,hxl,l,hs' with
 | [y0,y1,y2,y3,y4],_,[v0,v1,v2,v3,v4],_=>
  have g0:=hf 0 _ rfl;have g1:=hf 1 _ rfl;have g2:=hf 2 _ rfl;have g3:=hf 3 _ rfl;have g4:=hf 4 _ rfl;simp[h1] at g0 g1 g2 g3 g4;obtain⟨z0,e0,_,w0⟩:=DataW.trod_int Tryz.underlying3 g0;obtain⟨z1,e1,_,w1⟩:=DataW.trod_int Tryz.underlying3 g1;obtain⟨z2,e2,_,w2⟩:=DataW.trod_int Tryz.underlying3 g2;obtain⟨z3,e3,_,w3⟩:=DataW.trod_int Tryz.underlying3 g3;obtain⟨z4,e4,_,w4⟩:=DataW.trod_int Tryz.underlying3 g4;simp only[List.cons.injEq,and_true] at e0 e1 e2 e3 e4;subst e0 e1 e2 e3 e4;exact⟨(z0,z1,z2,z3,z4),rfl,⟨bounds_i64 w0,bounds_i64 w1,bounds_i64 w2,bounds_i64 w3,bounds_i64 w4⟩⟩
end
section
open Go.RowKit
def KnoS (w:World) (K:Value) (k:Kno):Prop:=∃base vs l ix,SegM w base K vs l ix∧yg l∧k=zt vs l ix
theorem KnoS.steady {w w':World} {K:Value} {k:Kno} (h:KnoS w K k) (hs:Steady 0 qh w w'):KnoS w' K k:=by
 obtain⟨b,vs,l,ix,h1,h2,h3⟩:=h;exact⟨b,vs,l,ix,h1.steady hs,h2,h3⟩
theorem KnoS.later {w w':World} {K:Value} {k:Kno} (h:KnoS w K k) (hb:Below w.heap.size w w'):KnoS w' K k:=h.steady (.of_below hb)
theorem KnoS.frags {w:World} {K:Value} {k:Kno} (h:KnoS w K k):∃a c,K=.slice a k.length c∧Frags w a k.length c k:=by
 obtain⟨b,vs,l,ix,h1,h2,rfl⟩:=h;have e:(zt vs l ix).length=vs.length:=by rw[zd8];simp
 rw[e];exact h1.frags h2
theorem OwnV.add {w:World} {base base':Nat} {V S:Value} {v:Vec} {r m:Nat} {h:List Iv} (hV:OwnV w base V v) (hS:w.ownsRow base' 89 2 S h.length (ivC h)) (hl:yg h) (A:Option Addr) (c:Nat) (hr:Rd w 3 A 1 [.int .u64 (r:Nat),.int .u64 (m:Nat),S]) (hb:v.length+1≤1000000000000) (hbase:base≤w.heap.size):
 ∃V' w',(Builtin.append_ #[95,95] 95 #[V,.slice A 1 c]).run Tryz.prog w=.ok V' w'∧OwnV w' base V' (v++[(r,m,h)])∧w.grownBy w' V.ownBlock∧(∀k,V.ownBlock=some k→base≤k):=by
 obtain⟨ss,ho,hh⟩:=hV;obtain⟨a,cs,rfl,hI⟩:=zhv (base':=0) hS hl;obtain⟨V',w',h1,h2,h3⟩:=za4 base _ _ _ _ 3 40 Tryz.underlying95 Tryz.info_ent rfl (by omega) V v.length _ ho A 1 c _ hr (by simp[Value.oneCell']) (by unfold maxLen;omega) (by omega) hbase;have hs:Steady base zdq w w':=.grown ho h3 (show ¬(93:TypeId)=89 by decide);refine⟨V',w',h1,⟨ss++[.slice a h.length cs],?_,(hh.snoc (e:=(r,m,h)) hI).steady (hs.lower (Nat.zero_le _)) rfl⟩,h3,fun k hk=>(ho.lt k hk).1⟩;rw[zhw hh.1,List.length_append];exact h2
abbrev zsf (L:za):List Value:=[.int .i64 L.1,.int .i64 L.2.1,.int .i64 L.2.2.1,.int .i64 L.2.2.2.1,.int .i64 L.2.2.2.2]
structure RdM (w wi:World) (g:Nat) (B:Value) (E:Nat) (L:za) (cs:Except (Nat×Nat) Nat):Prop where
 grown:w.grownBy wi (some g)
 lim:Row wi w.heap.size 24 (zsf L)
 cur:CurM wi g B E cs
theorem RdM.below {w wi w':World} {g E:Nat} {B:Value} {L:za} {cs:Except (Nat×Nat) Nat} (h:RdM w wi g B E L cs) (hb:Below wi.heap.size wi w'):RdM w w' g B E L cs:=⟨zbp h.grown hb,h.lim.later hb,CurM.later h.cur hb⟩
theorem RdM.own {w wi w':World} {g E base sz n:Nat} {B V:Value} {L:za} {cs:Except (Nat×Nat) Nat} {T:TypeId} {xs:List Value} (h:RdM w wi g B E L cs) (ho:wi.ownsRow base T sz V n xs) (hb:w.heap.size≤base) (hT:T≠24∧T≠106) (hg:wi.grownBy w' V.ownBlock):RdM w w' g B E L cs:=
 ⟨zf3 h.grown hg fun k hk=>Nat.le_trans hb (ho.lt k hk).1,h.lim.grown hg fun e=>h.lim.ne_own ho (fun e=>hT.1 e.symm) _ e.symm rfl,h.cur.grown hg fun e=>CurM.ne_own h.cur ho (fun e=>hT.2 e.symm) _ e.symm rfl⟩
structure ItemB (wz w:World) (g cu i n cap E:Nat) (B:Value) (L:za) (cs:Except (Nat×Nat) Nat) (vs:List Vec) (l:List Iv) (ix:List Nat) (all:Value) (la:List Iv) (w':World) (gS m cS:Nat) (S:Value):Prop where
 mem:RdM w w' cu B E L cs
 lo:w.heap.size≤g
 cell:w'.cell? ⟨g,i*2,none⟩=some S
 frozen:w'.frozen? ⟨g,i*2,none⟩=false
 fin:SegB wz (w'.setCell ⟨g,i*2,none⟩ (.slice (some ⟨gS,0,none⟩) m cS)) w.heap.size (.slice (some ⟨g,0,none⟩) n cap) vs l ix all la
 limNe:g≠w.heap.size
 curNe:g≠cu
theorem ItemB.done {wz w w':World} {g cu i n cap E gS m cS:Nat} {B all S:Value} {L:za} {cs:Except (Nat×Nat) Nat} {vs:List Vec} {l la:List Iv} {ix:List Nat} (h:ItemB wz w g cu i n cap E B L cs vs l ix all la w' gS m cS S):RdM w (w'.setCell ⟨g,i*2,none⟩ (.slice (some ⟨gS,0,none⟩) m cS)) cu B E L cs:=
 ⟨jd h.mem.grown (a:=⟨g,i*2,none⟩) _ (.inl h.lo),h.mem.lim.other (a:=⟨g,i*2,none⟩) (fun e=>h.limNe e.symm) _,h.mem.cur.other h.curNe _⟩
end
section
def vsK (c:Kno):List Vec:=c.map (·.2)
theorem zat (c:Kno):(vsK c).length=c.length:=by simp[vsK]
theorem zee {c:Kno} {d:Nat} (hd:d<c.length):(vsK c)[d]'(by rw[zat];exact hd)=(zc c d).2:=by simp[vsK,z7 hd]
theorem zsg {c:Kno} (hc:CanK c) {d:Nat} (hd:d<c.length):qt ((vsK c).take d) (zc c d).2=false:=by
 unfold qt
 cases d with
 | zero=>simp
 | succ n=>
  rw[zcz (by rw[zat];omega),zee (show n<c.length by omega)];have h1:=List.pairwise_iff_getElem.1 hc.asc n (n+1) (by omega) hd (by omega);unfold zcj at h1;rw[←z7 (by omega),←z7 hd] at h1;simp only[h1]
  rfl
theorem zf6 {T:zg} {E:Nat} {le lh:Int} (hT:Fwd T) {c:Kno} (hc:CanK c) (hl:LtK c):∀d,d≤c.length→∀{p r:Nat},zy T p (ju c d) r→r≤E→
 ∃r0,T p=.ok (c.length,r0)∧r0+d≤r∧∀k,(∀i,i<d→okV le lh (zc c i).2)→yw T E le lh (d+k) [] r0=yw T E le lh k ((vsK c).take d) r
 | 0,_,p,r,hr,hE=>by
   obtain⟨r0,h1,rfl⟩:=hr
   exact⟨r0,h1,by omega,fun k _=>by rw[List.take_zero,Nat.zero_add]⟩
 | d+1,hd,p,r,hr,hE=>by
   rw[ju] at hr;obtain⟨s,h1,h2⟩:=qv.1 hr;have h3:=k8 hT h2;have hm:=jh (show d<c.length from hd);obtain⟨hv,hne⟩:=hc.vec _ hm
   have h4:1≤(km (zc c d).2).length:=by
    obtain⟨R,e⟩:=zf5 (zc c d).2 0 (zc c d).2.length (Nat.zero_le _);unfold km;rw[e];simp[vj]
   obtain⟨r0,h5,h6,h7⟩:=zf6 hT hc hl d (by omega) h1 (show s≤E by omega);refine⟨r0,h5,by omega,fun k hk=>?_⟩;rw[show d+1+k=d+(k+1) by omega,h7 (k+1) (fun i hi=>hk i (by omega)),yw,(zjx hT hv (hl _ hm).vec hne h2 hE).1 (hk d (by omega)),yh,zsg hc hd,if_neg (by simp),List.take_succ_eq_append_getElem (by rw[zat];exact hd),zee hd]
theorem zj8 (c:Kno) (i:Nat):∀d,i≤d→∃R,ju c d=ju c i++R
 | 0,h=>⟨[],by rw[show i=0 by omega,List.append_nil]⟩
 | d+1,h=>by
   rcases Nat.lt_or_ge d i with h1 | h1
   · exact⟨[],by rw[show i=d+1 by omega,List.append_nil]⟩
   · obtain⟨R,e⟩:=zj8 c i d h1;exact⟨R++km (zc c d).2,by rw[ju,e,List.append_assoc]⟩
theorem qz (L:List Seg):(zp L).length=L.length:=by simp[zp]
theorem zb1 (L:List Seg):(zw L).length=L.length:=by simp[zw]
theorem zsh {c:Kno} (hc:CanK c) {d:Nat} (hd:d<(zd c).length):¬(kq ((zp (zd c)).take d) (zb (zp (zd c)) d).1=true∧((zw (zd c)).take d).getLast?=some (nth (zw (zd c)) d)):=by
 rintro⟨h1,h2⟩
 cases d with
 | zero=>simp at h2
 | succ n=>
  have hp:=List.pairwise_iff_getElem.1 (zis hc) n (n+1) (by omega) hd (by omega);unfold kq yk at h1;rw[zcz (by rw[qz];omega)] at h1;rw[zcz (by rw[zb1];omega)] at h2;have e1:(zp (zd c))[n]'(by rw[qz];omega)=(zd c)[n].1:=by simp[zp]
  have e2:zb (zp (zd c)) (n+1)=(zd c)[n+1].1:=by rw[yr (by rw[qz];exact hd)];simp[zp]
  have e3:(zw (zd c))[n]'(by rw[zb1];omega)=(zd c)[n].2:=by simp[zw]
  have e4:nth (zw (zd c)) (n+1)=(zd c)[n+1].2:=by simp[nth,zw,hd]
  rw[e1,e2] at h1;rw[e3,e4] at h2;simp only[Option.map_some,decide_eq_true_eq] at h1;have:=hp.2 (Option.some.inj h2);omega
theorem zj9 {T:zg} {c:Kno} (hc:CanK c) (hl:LtK c):∀d,d≤(zd c).length→∀{p r:Nat},zy T p (j7 (zp (zd c)) (zw (zd c)) d) r→
 ∃r0,T p=.ok ((zd c).length,r0)∧∀k,yq T c.length (d+k) [] [] r0=yq T c.length k ((zp (zd c)).take d) ((zw (zd c)).take d) r
 | 0,_,p,r,hr=>by
   obtain⟨r0,h1,rfl⟩:=hr;rw[qz] at h1
   exact⟨r0,h1,fun k=>by rw[List.take_zero,List.take_zero,Nat.zero_add]⟩
 | d+1,hd,p,r,hr=>by
   rw[j7] at hr;obtain⟨s,h1,h2⟩:=qv.1 hr;obtain⟨t,h3,h4⟩:=qv (a:=[qn (zp (zd c)) 0 d,(zb (zp (zd c)) d).2 - (zb (zp (zd c)) d).1]) (b:=[nth (zw (zd c)) d]).1 h2;obtain⟨r',h5,rfl⟩:=h4;obtain⟨r0,h6,h7⟩:=zj9 hc hl d (by omega) h1
   have hlt:yg (zp (zd c)):=fun s hs=>by
    obtain⟨p,hp,rfl⟩:=List.mem_map.1 hs;obtain⟨-,-,h3⟩:=k7 c c.length (Nat.le_refl _);exact(hl _ (jh (h3 p hp).1)).items _ (h3 p hp).2
   obtain⟨w,h8⟩:=zjs (l:=zp (zd c)) (a:=0) (zqn hc) hlt (by rw[qz];exact hd) h3;refine⟨r0,h6,fun k=>?_⟩;rw[show d+1+k=d+(k+1) by omega,h7 (k+1),yq,h8,yh];unfold kr;have hx:nth (zw (zd c)) d<c.length:=zi2 (k:=c) hd;rw[zba h5,yh,if_neg (by omega),if_neg (zsh hc hd),List.take_succ_eq_append_getElem (by rw[qz];exact hd),List.take_succ_eq_append_getElem (by rw[zb1];exact hd)]
   have e:nth (zw (zd c)) d=(zw (zd c))[d]'(by rw[zb1];exact hd):=by
    unfold nth;rw[List.getD_eq_getElem?_getD,List.getElem?_eq_getElem (by rw[zb1];exact hd)]
    rfl
   rw[yr (by rw[qz];exact hd),e]
structure okK (L:za) (c:Kno):Prop where
 vecs:okC c.length L.2.1
 vec:∀i,i<c.length→okV L.2.2.1 L.2.2.2.1 (zc c i).2
 segs:okC (zd c).length L.2.2.2.2
theorem zsi {c:Kno} (hc:CanK c):zt (vsK c) (zp (zd c)) (zw (zd c))=c:=by
 have h:=zp3 hc;unfold zt zw;rw[List.map_map];exact h
theorem zsj {c:Kno} (hc:CanK c) (E z:Nat):jv E c z=if z<E then .error (11,z) else .ok (c,z):=by
 unfold jv;rw[if_neg (by rintro⟨f,hf,h⟩;exact(hc.items f hf).2 h)]
theorem zsk {T:zg} (hT:Fwd T) {E p z:Nat} {L:za} {c:Kno} (hc:CanK c) (hl:LtK c) (hr:zy T p (qi c) z) (hz:z≤E):
 (okK L c→yl T E L p=if z<E then .error (11,z) else .ok (c,z))∧(¬okK L c→∃w,yl T E L p=.error (7,w)):=by
 have hr':=hr;unfold qi at hr';obtain⟨s,h1,h2⟩:=qv.1 hr';have h2':zy T s (j7 (zp (zd c)) (zw (zd c)) (zd c).length) z:=h2;have h3:=k8 hT h2;rw[zfu] at h3;obtain⟨r0,a1,a2,a3⟩:=zf6 (E:=E) (le:=L.2.2.1) (lh:=L.2.2.2.1) hT hc hl c.length (Nat.le_refl _) h1 (by omega);obtain⟨q0,b1,b2⟩:=zj9 hc hl (zd c).length (Nat.le_refl _) h2';have hb:=b2 0;rw[Nat.add_zero,yq,List.take_of_length_le (by rw[qz];exact Nat.le_refl _),List.take_of_length_le (by rw[zb1];exact Nat.le_refl _)] at hb
 have hq:q0+(zd c).length≤E:=by
  cases hS:(zd c).length with
  | zero=>rw[hS] at h2';obtain⟨r,e1,rfl⟩:=h2';rw[b1] at e1;injection e1 with e;injection e with _ e;omega
  | succ n=>
   obtain⟨R,e⟩:∃R,j7 (zp (zd c)) (zw (zd c)) (zd c).length=[(zp (zd c)).length]++R:=by
    have:∀d,∃R,j7 (zp (zd c)) (zw (zd c)) d=[(zp (zd c)).length]++R:=by
     intro d
     induction d with
     | zero=>exact⟨[],rfl⟩
     | succ d ih=>obtain⟨R,e⟩:=ih;exact⟨_,by rw[j7,e,List.append_assoc]⟩
    exact this _
   have hln:=zfu (zp (zd c)) (zw (zd c)) (zd c).length;rw[e] at h2' hln;obtain⟨t,⟨t',e1,rfl⟩,e2⟩:=qv.1 h2';have e3:=k8 hT e2;rw[b1] at e1;injection e1 with e1;injection e1 with _ e1;simp only[List.length_append,List.length_cons,List.length_nil] at hln;omega
 by_cases k1:okC c.length L.2.1
 · by_cases k2:∀i,i<c.length→okV L.2.2.1 L.2.2.2.1 (zc c i).2
   · have hv:=a3 0 k2;rw[Nat.add_zero,yw,List.take_of_length_le (by rw[zat];exact Nat.le_refl _)] at hv;by_cases k3:okC (zd c).length L.2.2.2.2
     · refine⟨fun _=>?_,fun h=>absurd ⟨k1,k2,k3⟩ h⟩;unfold yl vz;rw[zbb a1 k1 (by omega),yh,hv,yh,zbb b1 k3 hq,yh,zat,hb,yh];simp only;rw[zsi hc,zsj hc]
     · refine⟨fun h=>absurd h.segs k3,fun _=>⟨s,?_⟩⟩;unfold yl vz;rw[zbb a1 k1 (by omega),yh,hv,yh,zec b1 k3,vx]
   · refine⟨fun h=>absurd h.vec k2,fun _=>?_⟩;have:DecidablePred fun i=>okV L.2.2.1 L.2.2.2.1 (zc c i).2:=fun i=>Classical.propDecidable _
     obtain⟨i,hi,hbad,hlt⟩:=zjw (P:=fun i=>okV L.2.2.1 L.2.2.2.1 (zc c i).2) k2;obtain⟨R,e⟩:=zj8 c (i+1) c.length hi;have h1':=h1;rw[e] at h1';obtain⟨t,g1,g2⟩:=qv.1 h1';have g3:=k8 hT g2;rw[ju] at g1;obtain⟨u,g4,g5⟩:=qv.1 g1;have g6:=k8 hT g5;obtain⟨r0',a1',-,a3'⟩:=zf6 (E:=E) (le:=L.2.2.1) (lh:=L.2.2.2.1) hT hc hl i (by omega) g4 (by omega);obtain rfl:r0'=r0:=by rw[a1] at a1';injection a1' with h;injection h with _ h;exact h.symm
     have hm:=jh hi;obtain⟨w,hw⟩:=(zjx (E:=E) hT (hc.vec _ hm).1 (hl _ hm).vec (hc.vec _ hm).2 g5 (by omega)).2 hbad;have:=a3' (c.length - i) hlt;rw[show i+(c.length - i)=c.length by omega,show c.length - i=(c.length - i - 1)+1 by omega,yw,hw,vx] at this
     exact⟨w,by
      unfold yl;rw[zbb a1 k1 (by omega),yh,this,vx]⟩
 · refine⟨fun h=>absurd h.vecs k1,fun _=>⟨p,?_⟩⟩;unfold yl;rw[zec a1 k1,vx]
def T64 (T:zg):Prop:=∀p x q,T p=.ok (x,q)→x<18446744073709551616
theorem y7 {α β:Type} {a:RR α} {f:α→Nat→RR β} {y:β×Nat} (h:thn a f=.ok y):∃x q,a=.ok (x,q)∧f x q=.ok y:=by
 cases a with
 | error e=>cases h
 | ok z=>exact⟨z.1,z.2,rfl,h⟩
theorem zau {T:zg} {p x q:Nat} (h:nmP T p=.ok (x,q)):T p=.ok (x,q):=by
 unfold nmP at h
 cases hT:T p with
 | error c=>rw[hT] at h;cases h
 | ok y=>rw[hT] at h;cases h;rfl
theorem zc0 {T:zg} {E p x q:Nat} {lim:Int} (h:yz T E lim p=.ok (x,q)):T p=.ok (x,q)∧okC x lim:=by
 unfold yz at h;obtain⟨y,r,h1,h2⟩:=y7 h;split at h2
 · rename_i h3;cases h2;refine⟨zau h1,?_⟩;unfold zl at h3;unfold okC;split at h3
   · cases h3
   · rename_i h4;rcases Nat.eq_zero_or_pos x with h5 | h5
     · exact .inr h5
     · exact .inl (by
        by_cases h6:lim<(x:Int)
        · exact absurd ⟨h6,by omega⟩ h4
        · omega)
 · cases h2
theorem ve {l:List Iv} {t:List Iv} {i:Nat} (h:i<l.length):zb (l++t) i=zb l i:=by
 rw[yr h,yr (by rw[List.length_append];omega),List.getElem_append_left h]
theorem zc1 (l:List Iv) (s:Iv):zb (l++[s]) l.length=s:=by
 rw[yr (by simp)];simp
theorem zka (l t:List Iv) (a:Nat):∀d,d≤l.length→qr (l++t) a d=qr l a d
 | 0,_=>rfl
 | d+1,h=>by
   rw[qr,qr,zka l t a d (by omega),ve h]
   have:qn (l++t) a d=qn l a d:=by
    unfold qn;rw[ve (by omega),ve (i:=d) h,ve (by omega)]
   rw[this]
theorem zkb (l:List Iv):yk l=if l.length=0 then none else some (zb l (l.length - 1)).2:=by
 unfold yk;rw[List.getLast?_eq_getElem?]
 cases h:l.length with
 | zero=>rw[List.length_eq_zero_iff.1 h];rfl
 | succ n=>rw[if_neg (by omega),show n+1 - 1=n by omega,List.getElem?_eq_getElem (by omega),yr (by omega)];rfl
theorem zkc {T:zg} {l:List Iv} {a p q w:Nat} {s:Iv} (hT:T64 T) (hD:vv l a) (hl:yg l) (h:ivP T (yk l) a p=.ok ((s,w),q)):
 vv (l++[s]) a∧yg (l++[s])∧zy T p [qn (l++[s]) a l.length,s.2 - s.1] q:=by
 unfold ivP at h;obtain⟨x,r,h1,h2⟩:=y7 h;have t1:=zau h1;have x64:=hT _ _ _ t1
 cases hlo:loP (yk l) a x with
 | none=>rw[hlo] at h2;cases h2
 | some lo=>
  rw[hlo] at h2;simp only[hiP] at h2;obtain⟨y,r',h3,h4⟩:=y7 h2;have t2:=zau h3;split at h4
  · rename_i hb;cases h4
    have hg:qn (l++[(lo,lo+y)]) a l.length=x∧(0<l.length→(zb l (l.length - 1)).2+1+a≤lo)∧lo<18446744073709551616:=by
     rw[zkb] at hlo;unfold qn;rcases Nat.eq_zero_or_pos l.length with h0 | h0
     · rw[if_pos h0] at hlo;cases hlo;rw[if_pos h0];have:l=[]:=List.length_eq_zero_iff.1 h0;subst this;exact⟨rfl,fun h=>by simp at h,x64⟩
     · rw[if_neg (by omega)] at hlo;simp only[loP] at hlo;split at hlo
       · cases hlo;rw[if_neg (by omega),zc1,ve (by omega)];exact⟨by simp only;omega,fun _=>by omega,by assumption⟩
       · cases hlo
    refine⟨fun i hi=>?_,fun t ht=>?_,⟨_,by rw[hg.1];exact t1,_,by rw[show (lo,lo+y).2 - (lo,lo+y).1=y by simp only;omega];exact t2,rfl⟩⟩
    · rw[List.length_append,List.length_cons,List.length_nil] at hi;rcases Nat.lt_or_ge i l.length with h5 | h5
      · rw[ve h5];refine⟨(hD i h5).1,fun h0=>?_⟩;rw[ve (by omega)];exact(hD i h5).2 h0
      · obtain rfl:i=l.length:=by omega
        rw[zc1];refine⟨by simp only;omega,fun h0=>?_⟩;rw[ve (by omega)];exact hg.2.1 h0
    · rcases List.mem_append.1 ht with ht | ht
      · exact hl t ht
      · simp at ht;subst ht;exact⟨hg.2.2,hb⟩
  · cases h4
theorem zkd {T:zg} {mx:Nat} (hT:T64 T):∀(n:Nat) (acc:List Iv) {p q:Nat} {h:List Iv},qs T mx n acc p=.ok (h,q)→vv acc 1→yg acc→(∀s∈acc,s.2<mx)→
 ∀{P0:Nat},zy T P0 (qr acc 1 acc.length) p→zy T P0 (qr h 1 h.length) q∧vv h 1∧yg h∧(∀s∈h,s.2<mx)∧h.length=acc.length+n
 | 0,acc,p,q,h,hh,hD,hl,hm,P0,hr=>by cases hh;exact⟨hr,hD,hl,hm,rfl⟩
 | n+1,acc,p,q,h,hh,hD,hl,hm,P0,hr=>by
   rw[qs] at hh;obtain⟨⟨s,w⟩,r,h1,h2⟩:=y7 hh;obtain⟨d1,d2,d3⟩:=zkc hT hD hl h1;unfold kp at h2;split at h2
   · cases h2
   · rename_i h3;simp only at h3 h2
     obtain⟨e1,e2,e3,e4,e5⟩:=zkd hT n (acc++[s]) h2 d1 d2 (fun t ht=>by
      rcases List.mem_append.1 ht with ht | ht
      · exact hm t ht
      · simp at ht;subst ht;omega) (P0:=P0) (by
      rw[List.length_append,List.length_cons,List.length_nil,Nat.zero_add,qr,zka acc [s] 1 acc.length (Nat.le_refl _),zc1];exact qv.2 ⟨p,hr,d3⟩)
     refine⟨e1,e2,e3,e4,?_⟩;rw[e5,List.length_append,List.length_cons,List.length_nil];omega
theorem zsl {l:List Iv} (h:vv l 1):Good l:=ze7 fun i hi=>⟨(h i hi).1,fun h0=>by have:=(h i hi).2 h0;omega⟩
def k9 (v:Vec):Nat→List Nat
 | 0=>[]
 | d+1=>k9 v d++vw v d
theorem zke (v:Vec):∀d,vj v d=v.length :: k9 v d
 | 0=>rfl
 | d+1=>by rw[vj,k9,zke v d];rfl
theorem zc2 {v t:Vec} {i:Nat} (h:i<v.length):zf (v++t) i=zf v i:=by
 rw[jq h,jq (by rw[List.length_append];omega),List.getElem_append_left h]
theorem zf7 (v:Vec) (e:Ent):zf (v++[e]) v.length=e:=by
 rw[jq (by simp)];simp
theorem zkf (v t:Vec):∀d,d≤v.length→k9 (v++t) d=k9 v d
 | 0,_=>rfl
 | d+1,h=>by
   rw[k9,k9,zkf v t d (by omega)]
   have:vw (v++t) d=vw v d:=by
    unfold vw zao;rw[zc2 (i:=d) h,zc2 (i:=0) (by omega),zc2 (i:=d - 1) (by omega)]
   rw[this]
theorem zsm (v:Vec):v.getLast?=if v.length=0 then none else some (zf v (v.length - 1)):=by
 rw[List.getLast?_eq_getElem?]
 cases h:v.length with
 | zero=>rw[List.length_eq_zero_iff.1 h];rfl
 | succ n=>rw[if_neg (by omega),show n+1 - 1=n by omega,List.getElem?_eq_getElem (by omega),jq (by omega)]
theorem zsn {T:zg} {E:Nat} {lim:Int} (hT:T64 T) {v:Vec} {e:Ent} {p q:Nat} (h:zaq T E lim v p=.ok (e,q)):
 zy T p (vw (v++[e]) v.length) q∧CanE e∧LtE e∧okC e.2.2.length lim∧(0<v.length→(zf v (v.length - 1)).1<e.1):=by
 unfold zaq at h;obtain⟨x,r,h1,h2⟩:=y7 h;have t1:=zau h1
 cases hr:jk v x with
 | none=>rw[hr] at h2;cases h2
 | some rp=>
  rw[hr] at h2;simp only[zbt] at h2;obtain⟨mx,r2,h3,h4⟩:=y7 h2;have t2:=zau h3;unfold zbs at h4;obtain⟨n,r3,h5,h6⟩:=y7 h4;obtain⟨t3,hc⟩:=zc0 h5;obtain⟨hl,r4,h7,h8⟩:=y7 h6;cases h8;obtain⟨e1,e2,e3,e4,e5⟩:=zkd hT n [] h7 (fun i hi=>(by simp at hi)) (fun t ht=>(by cases ht)) (fun t ht=>(by cases ht)) (P0:=r3) rfl;have hn:hl.length=n:=by simpa using e5
  have hg:=zsl e2
  have hrep:zao (v++[(rp,mx,hl)]) v.length=x∧rp<18446744073709551616∧(0<v.length→(zf v (v.length - 1)).1<rp):=by
   have x64:=hT _ _ _ t1;unfold jk at hr;rw[zsm] at hr;unfold zao;rcases Nat.eq_zero_or_pos v.length with h0 | h0
   · rw[if_pos h0] at hr;cases hr;rw[if_pos h0];have:v=[]:=List.length_eq_zero_iff.1 h0;subst this;exact⟨rfl,x64,fun h=>by simp at h⟩
   · rw[if_neg (by omega)] at hr;simp only at hr;split at hr
     · cases hr;rw[if_neg (by omega),zf7,zc2 (by omega)];exact⟨by simp only;omega,by assumption,fun _=>by omega⟩
     · cases hr
  refine⟨?_,⟨hg,fun s hs=>Nat.le_of_lt (e4 s hs),?_⟩,⟨hrep.2.1,hT _ _ _ t2,e3⟩,by simp only[hn];exact hc,hrep.2.2⟩
  · unfold vw;rw[hrep.1,zf7];refine qv.2 ⟨r3,⟨r,t1,r2,t2,r3,by simp only[hn];exact t3,rfl⟩,e1⟩
  · cases hm:mem hl mx with
    | false=>rfl
    | true=>
     obtain⟨s,hs,a1,a2⟩:=mem_iff.1 hm;have:=e4 s hs;omega
structure EInv (lim:Int) (v:Vec):Prop where
 can:CanV v
 lt:LtV v
 lim:∀i,i<v.length→okC (zf v i).2.2.length lim
theorem zkg {T:zg} {E:Nat} {lim:Int} (hT:T64 T):∀(n:Nat) (acc:Vec) {p q:Nat} {v:Vec},yv T E lim n acc p=.ok (v,q)→EInv lim acc→
 ∀{P0:Nat},zy T P0 (k9 acc acc.length) p→zy T P0 (k9 v v.length) q∧EInv lim v∧v.length=acc.length+n
 | 0,acc,p,q,v,h,hI,P0,hr=>by cases h;exact⟨hr,hI,rfl⟩
 | n+1,acc,p,q,v,h,hI,P0,hr=>by
   rw[yv] at h;obtain⟨e,r,h1,h2⟩:=y7 h;obtain⟨a1,a2,a3,a4,a5⟩:=zsn hT h1
   obtain⟨b1,b2,b3⟩:=zkg hT n (acc++[e]) h2 ⟨⟨List.pairwise_append.2 ⟨hI.can.asc,List.pairwise_singleton _ _,fun x hx y hy=>by
    simp at hy;subst hy;obtain⟨i,hi,rfl⟩:=List.getElem_of_mem hx;have h3:=a5 (by omega);unfold zci;rcases Nat.lt_or_ge i (acc.length - 1) with h4 | h4
    · have h5:=List.pairwise_iff_getElem.1 hI.can.asc i (acc.length - 1) hi (by omega) h4;unfold zci at h5;rw[jq (by omega)] at h3;omega
    · rw[jq (by omega)] at h3;have e':i=acc.length - 1:=by omega
      subst e';exact h3⟩,fun x hx=>by
    rcases List.mem_append.1 hx with hx | hx
    · exact hI.can.ent x hx
    · simp at hx;subst hx;exact a2⟩,fun x hx=>by
    rcases List.mem_append.1 hx with hx | hx
    · exact hI.lt x hx
    · simp at hx;subst hx;exact a3,fun i hi=>by
    rw[List.length_append,List.length_cons,List.length_nil] at hi;rcases Nat.lt_or_ge i acc.length with h4 | h4
    · rw[zc2 h4];exact hI.lim i h4
    · obtain rfl:i=acc.length:=by omega
      rw[zf7];exact a4⟩ (P0:=P0) (by
    rw[List.length_append,List.length_cons,List.length_nil,Nat.zero_add,k9,zkf acc [e] acc.length (Nat.le_refl _)];exact qv.2 ⟨p,hr,a1⟩)
   refine⟨b1,b2,?_⟩;rw[b3,List.length_append,List.length_cons,List.length_nil];omega
theorem zso {T:zg} {E:Nat} {le lh:Int} (hT:T64 T) {v:Vec} {p q:Nat} (h:vy T E le lh p=.ok (v,q)):zy T p (km v) q∧CanV v∧LtV v∧v≠[]∧okV le lh v:=by
 unfold vy at h;obtain⟨n,r,h1,h2⟩:=y7 h;obtain⟨t1,hc⟩:=zc0 h1;split at h2
 · cases h2
 · rename_i h0;obtain⟨b1,b2,b3⟩:=zkg hT n [] h2 ⟨⟨List.Pairwise.nil,fun e he=>(by cases he)⟩,fun e he=>(by cases he),fun i hi=>(by simp at hi)⟩ (P0:=r) rfl;have hn:v.length=n:=by simpa using b3
   refine⟨?_,b2.can,b2.lt,fun e=>h0 (by rw[←hn,e];rfl),by rw[hn];exact hc,b2.lim⟩;unfold km;rw[zke,hn];exact⟨r,t1,by rw[←hn];exact b1⟩
