/- Part 13. -/
import Derived.Test.YtmfhggnlainmiaaGreatDoorPk12
set_option linter.unusedVariables false
set_option maxHeartbeats 16000000
namespace Go.Proofs.YtmfhggnlainmiaaGreatDoor
open Lib (hid)
section
open Go.RowKit
attribute [local go_sem] y9
def wkC (L:zc) (part K:Value) (U C:Nat) (err:Value):List Value:=
 [.int .i64 L.1,.int .i64 L.2.1,.int .i64 L.2.2.1,.int .i64 L.2.2.2.1,.int .i64 L.2.2.2.2,part,K,.map (some U),.pointer (some ⟨C,0,none⟩),err]
def zho:Value:=.iface 156 (.agg #[])
def vcC (left:Nat) (frm:Int) (ip:Value):List Value:=[.int .u64 (left:Int),.int .i64 frm,ip]
def sgC (left turn:Nat) (last:Int) (touch:Bool):List Value:=[.int .u64 (left:Int),.int .i64 (turn:Int),.int .i64 last,.bool touch]
def VecAt (w:World) (base R:Nat) (L:zc) (K:Value) (U C B:Nat) (s:WS):Prop:=
 (s.inner=ps0∧(∃ip,Row w B 236 (vcC s.left (-1) ip))∧KV w base K s.vs)∨
 (1≤s.inner.tag∧∃P pb wb,Row w B 236 (vcC s.left (s.frm:Int) (.pointer (some ⟨P,0,none⟩)))∧KV wb base K s.vs∧Steady 0 jw wb w∧wb.heap.size≤pb∧base≤pb∧R<pb∧U<pb∧C<pb∧B<pb∧PkR w pb P L (pkF P s.inner.tag) s.inner)
def cuC (C lo0:Nat) (s:WS):List Value:=match s.turn with | 0=>k8 C 0 lo0 s.l.getLast? false | 1=>k8 C 0 s.lo s.l.getLast? true | _=>k8 C 0 lo0 (some (s.lo,s.hi)) false
def ybe (w:World) (C B:Nat) (s:WS):Prop:=
 ∃(last:Int) (touch:Bool) (lo0:Nat),Row w B 241 (sgC s.left s.turn last touch)∧(∀x,s.ix.getLast?=some x→last=(x:Int))∧(1≤s.turn→touch=s.tch)∧
  Row w C 230 (cuC C lo0 s)
def WkB (w:World) (base R:Nat) (L:zc) (s:WS) (part K:Value) (U C:Nat):Prop:=
 match s.tag with
 | 0=>part=.iface 148 (.agg #[])∧KV w base K s.vs∧Row w C 230 (k8 C 0 0 none false)
 | 1=>∃B,part=.iface 233 (.pointer (some ⟨B,0,none⟩))∧base≤B∧Row w C 230 (k8 C 0 0 none false)∧VecAt w base R L K U C B s
 | 2=>part=.iface 237 (.agg #[])∧KV w base K s.vs∧Row w C 230 (k8 C 0 0 none false)
 | 3=>∃B,part=.iface 239 (.pointer (some ⟨B,0,none⟩))∧base≤B∧SegM w base K s.vs s.l s.ix∧ybe w C B s
 | _=>part=zho∧SegM w base K s.vs s.l s.ix
def WkR (w:World) (base R:Nat) (L:zc) (s:WS):Prop:=
 base≤R∧∃part K U C,base≤U∧base≤C∧Row w R 155 (wkC L part K U C .nilIface)∧UsedM w U s.ix∧WkB w base R L s part K U C
def zaq (c o:Nat):Value:=.iface 110 (.agg #[.int .i64 (c:Int),.int .i64 (o:Int)])
theorem ybf {c o:Nat} (h:c≠0):zy (zfr (c:Int) (o:Int))=zaq c o:=by
 unfold zfr;rw[if_neg (by omega)]
 rfl
def WkS (w:World) (base R:Nat) (L:zc) (r:Except (Nat×Nat) WS) (e:Ending) (w':World):Prop:=
 BelT base w w'∧match r with
 | .error x=>e=.returned (zaq x.1 x.2)∧∃C,Row w' R 155 C∧C.length=10
 | .ok s'=>e=.returned .nilIface∧WkR w' base R L s'
theorem zdk {c o:Nat} (h:c≠0) (w:World):Calls Tryz.prog 64 #[.int .i64 (c:Int),.int .i64 (o:Int)] w fun e w'=>e=.returned (zaq c o)∧w=w':=
 (zaf (c:Int) (o:Int) w).mono fun e w' ⟨h1,h2⟩=>⟨by rw[h1,ybf h],h2⟩
theorem zzb (x:Nat) (lim:Int) (rest:Nat) (w:World) (hx:x<18446744073709551616) (hl:I64 lim) (hr:rest<9223372036854775808):
 Calls Tryz.prog 146 #[.int .u64 (x:Int),.int .i64 lim,.int .i64 (rest:Int)] w fun e w'=>e=.returned (.int .i64 ((ql x lim rest:Nat):Int))∧w=w':=by
 have hc:=zyr x lim rest;obtain⟨l1,l2⟩:=hl;generalize ql x lim rest=c at*;have Hx:=hid hx;clear hx;by_cases hneg:lim<0
 · have e0:max lim 0=0:=by omega
   rw[e0] at hc;clear e0;rcases hc with ⟨h1,rfl⟩ | ⟨h1,h2,rfl⟩ | ⟨h1,h2,rfl⟩
   · have h1':0<x:=by omega
     clear h1;go_enter Tryz.func146,Tryz.ntmps146;go_wp2_with fail;go_ret;exact⟨rfl,rfl⟩
   · have h1':x=0:=by omega
     omega
   · obtain rfl:x=0:=by omega
     go_enter Tryz.func146,Tryz.ntmps146;go_wp2_with fail;go_ret;exact⟨rfl,rfl⟩
 · obtain⟨m,rfl⟩:=Int.eq_ofNat_of_zero_le (show 0≤lim by omega);have e0:max (m:Int) 0=(m:Int):=by omega
   rw[e0] at hc;clear e0;rcases hc with ⟨h1,rfl⟩ | ⟨h1,h2,rfl⟩ | ⟨h1,h2,rfl⟩
   · have h1':m<x:=by omega
     clear h1;go_enter Tryz.func146,Tryz.ntmps146;go_wp2_with fail;go_ret;exact⟨rfl,rfl⟩
   · have h1':¬m<x:=by omega
     clear h1;go_enter Tryz.func146,Tryz.ntmps146;go_wp2_with fail;go_ret;exact⟨rfl,rfl⟩
   · have h1':¬m<x:=by omega
     clear h1;go_enter Tryz.func146,Tryz.ntmps146;go_wp2_with fail;go_ret;exact⟨rfl,rfl⟩
set_option maxRecDepth 20000 in
theorem zzc (base R:Nat) (L:zc) (s:WS) (part K:Value) (U C E next:Nat) (w:World) (hR0:base≤R) (hU:base≤U) (hC:base≤C) (hR:Row w R 155 (wkC L part K U C .nilIface)) (hu:UsedM w U s.ix) (hK:SegM w base K s.vs s.l s.ix)
 (hli:s.ix.length=s.l.length) (hix:∀i∈s.ix,i<s.vs.length) (hE:E - next<9223372036854775808) (hn:next≤E):
 Calls Tryz.prog 148 #[.pointer (some ⟨R,0,none⟩),.int .i64 (next:Int),.int .i64 ((E - next:Nat):Int)] w (WkS w base R L (zbn E s next)):=by
 obtain⟨ka,kc,rfl⟩:=hK.len;have hgr:=qh w R 5 zho;have hN:=hR.notT (by rintro(h | h | h) <;> cases h);have HR:=hid (show Row (w.setCell ⟨R,5,none⟩ zho) R 155 (wkC L zho (.slice ka s.vs.length kc) U C .nilIface) from hR.set 5 _);have HK:=hid (hK.grown hN hgr);have HU:=hid (hu.same (hgr.block U hu.lt (fun e=>by injection e with e;exact hu.ne (show w.heap[R]?=_ from hR) e)));have q5:=hR.cell 5 rfl;have z5:=hR.fz 5;have hc:=z98 (vs:=s.vs) hli;have Hb:=hid ((BelT.refl base w).setCell (p:=⟨R,5,none⟩) hR0 zho (hR.okR zlr));have Hix:=hid hix
 have hvl:s.vs.length≤9223372036854775807:=by
  obtain⟨_,X,Y,h1,h2,h3,h4,-⟩:=hK;rcases h4.2 with ⟨h',-⟩ | ⟨g,cap,cur,h',hg,hh,hnc,hcm,_⟩
  · injection h' with _ h' _;omega
  · unfold maxLen at hcm;omega
 unfold zbn;simp only[hc];clear hR hu hK hgr hN hc hix hli;unfold zho at HR HK HU Hb;obtain⟨N,hN⟩:∃N,N=s.vs.length:=⟨_,rfl⟩;rw[←hN] at hvl HR HK Hix ⊢;have Hn:=hid hN;have hul:=zr6 s.ix N;clear hN;by_cases h1:za5 s.ix N<N
 · rw[if_pos h1];have HN:=hid (fun W=>zdk (c:=10) (o:=next) (by decide) W);have hl:=fun k ty=>((HU.out.same (w':=(w.setCell ⟨R,5,none⟩ (.iface 156 (.agg #[]))).drewN k) rfl).len N Hix.out ty)
   have hd1:decide ((za5 s.ix N:Int)<(N:Int))=true:=by rw[decide_eq_true_iff];omega
   have hd2:decide (za5 s.ix N<N)=true:=by rw[decide_eq_true_iff];omega
   have q6:=fun k=>(show Row ((w.setCell ⟨R,5,none⟩ (.iface 156 (.agg #[]))).drewN k) R 155 _ from HR.out).cell 6 rfl
   have q7:=fun k=>(show Row ((w.setCell ⟨R,5,none⟩ (.iface 156 (.agg #[]))).drewN k) R 155 _ from HR.out).cell 7 rfl
   clear hul h1;generalize za5 s.ix N=u at*;go_enter Tryz.func148,Tryz.ntmps148;go_wp2;generalize w.setCell ⟨R,5,none⟩ (.iface 156 (.agg #[]))=w1 at*;go_quiet (fail);go_wp2_with fail;refine(HN.out _).mono ?_;rintro e w' ⟨rfl,rfl⟩;go_wp2_with fail;go_ret;exact⟨zfa Hb.out _,rfl,_,HR.out,rfl⟩
 · rw[if_neg h1];have hl:=fun k ty=>((HU.out.same (w':=(w.setCell ⟨R,5,none⟩ (.iface 156 (.agg #[]))).drewN k) rfl).len N Hix.out ty)
   have hd1:decide ((za5 s.ix N:Int)<(N:Int))=false:=by rw[decide_eq_false_iff_not];omega
   have hd2:decide (za5 s.ix N<N)=false:=by rw[decide_eq_false_iff_not];omega
   have q6:=fun k=>(show Row ((w.setCell ⟨R,5,none⟩ (.iface 156 (.agg #[]))).drewN k) R 155 _ from HR.out).cell 6 rfl
   have q7:=fun k=>(show Row ((w.setCell ⟨R,5,none⟩ (.iface 156 (.agg #[]))).drewN k) R 155 _ from HR.out).cell 7 rfl
   clear hul h1;generalize za5 s.ix N=u at*;by_cases h2:next<E
   · rw[if_pos h2];have h3:0<E - next:=by omega
     have HN:=hid (fun W=>zdk (c:=11) (o:=next) (by decide) W);clear h2 hE hn;generalize E - next=d at*
     go_enter Tryz.func148,Tryz.ntmps148;go_wp2;generalize w.setCell ⟨R,5,none⟩ (.iface 156 (.agg #[]))=w1 at*;go_quiet (fail);go_wp2_with fail;refine(HN.out _).mono ?_;rintro e w' ⟨rfl,rfl⟩;go_wp2_with fail;go_ret;exact⟨zfa Hb.out _,rfl,_,HR.out,rfl⟩
   · obtain rfl:next=E:=by omega
     rw[if_neg h2,Nat.sub_self];clear h2 hE hn;go_enter Tryz.func148,Tryz.ntmps148;go_wp2;generalize w.setCell ⟨R,5,none⟩ (.iface 156 (.agg #[]))=w1 at*;go_quiet (fail);go_wp2_with fail;go_ret;exact⟨zfa Hb.out _,rfl,hR0,_,_,U,C,hU,hC,HR.out,HU.out.same rfl,rfl,HK.out.later (z7 (Below.refl _ _) _)⟩
end
section
open Go.RowKit
theorem OwnV.add {w:World} {base base':Nat} {V S:Value} {v:Vec} {r m:Nat} {h:List Iv} (hV:OwnV w base V v) (hS:w.ownsRow base' 135 2 S h.length (ivC h)) (hl:zo h) (A:Option Addr) (c:Nat) (hr:Rd w 3 A 1 [.int .u64 (r:Nat),.int .u64 (m:Nat),S]) (hb:v.length+1≤1000000000000) (hbase:base≤w.heap.size):
 ∃V' w',(Builtin.append_ #[125,125] 125 #[V,.slice A 1 c]).run Tryz.prog w=.ok V' w'∧OwnV w' base V' (v++[(r,m,h)])∧w.grownBy w' V.ownBlock∧(∀k,V.ownBlock=some k→base≤k):=by
 obtain⟨ss,ho,hh⟩:=hV;obtain⟨a,cs,rfl,hI⟩:=ze3 (base':=0) hS hl;obtain⟨V',w',h1,h2,h3⟩:=zcf base _ _ _ _ 3 40 Tryz.underlying125 Tryz.info_ent rfl (by omega) V v.length _ ho A 1 c _ hr (by simp[Value.oneCell']) (by unfold maxLen;omega) (by omega) hbase;have hs:Steady base zde w w':=.grown ho h3 (show ¬(137:TypeId)=135 by decide);refine⟨V',w',h1,⟨ss++[.slice a h.length cs],?_,(hh.snoc (e:=(r,m,h)) hI).steady (hs.lower (Nat.zero_le _)) rfl⟩,h3,fun k hk=>(ho.lt k hk).1⟩;rw[znw hh.1,List.length_append];exact h2
abbrev zsm (L:zc):List Value:=[.int .i64 L.1,.int .i64 L.2.1,.int .i64 L.2.2.1,.int .i64 L.2.2.2.1,.int .i64 L.2.2.2.2]
structure RdM (w wi:World) (g:Nat) (B:Value) (E:Nat) (L:zc) (cs:Except (Nat×Nat) Nat):Prop where
 grown:w.grownBy wi (some g)
 lim:Row wi w.heap.size 24 (zsm L)
 cur:CurM wi g B E cs
theorem RdM.below {w wi w':World} {g E:Nat} {B:Value} {L:zc} {cs:Except (Nat×Nat) Nat} (h:RdM w wi g B E L cs) (hb:Below wi.heap.size wi w'):RdM w w' g B E L cs:=⟨vg h.grown hb,h.lim.later hb,CurM.later h.cur hb⟩
theorem RdM.own {w wi w':World} {g E base sz n:Nat} {B V:Value} {L:zc} {cs:Except (Nat×Nat) Nat} {T:TypeId} {xs:List Value} (h:RdM w wi g B E L cs) (ho:wi.ownsRow base T sz V n xs) (hb:w.heap.size≤base) (hT:T≠24∧T≠145) (hg:wi.grownBy w' V.ownBlock):RdM w w' g B E L cs:=
 ⟨zfw h.grown hg fun k hk=>Nat.le_trans hb (ho.lt k hk).1,h.lim.grown hg fun e=>h.lim.ne_own ho (fun e=>hT.1 e.symm) _ e.symm rfl,h.cur.grown hg fun e=>CurM.ne_own h.cur ho (fun e=>hT.2 e.symm) _ e.symm rfl⟩
structure ItemB (wz w:World) (g cu i n cap E:Nat) (B:Value) (L:zc) (cs:Except (Nat×Nat) Nat) (vs:List Vec) (l:List Iv) (ix:List Nat) (all:Value) (la:List Iv) (w':World) (gS m cS:Nat) (S:Value):Prop where
 mem:RdM w w' cu B E L cs
 lo:w.heap.size≤g
 cell:w'.cell? ⟨g,i*2,none⟩=some S
 frozen:w'.frozen? ⟨g,i*2,none⟩=false
 fin:SegB wz (w'.setCell ⟨g,i*2,none⟩ (.slice (some ⟨gS,0,none⟩) m cS)) w.heap.size (.slice (some ⟨g,0,none⟩) n cap) vs l ix all la
 limNe:g≠w.heap.size
 curNe:g≠cu
theorem ItemB.done {wz w w':World} {g cu i n cap E gS m cS:Nat} {B all S:Value} {L:zc} {cs:Except (Nat×Nat) Nat} {vs:List Vec} {l la:List Iv} {ix:List Nat} (h:ItemB wz w g cu i n cap E B L cs vs l ix all la w' gS m cS S):RdM w (w'.setCell ⟨g,i*2,none⟩ (.slice (some ⟨gS,0,none⟩) m cS)) cu B E L cs:=
 ⟨yz h.mem.grown (a:=⟨g,i*2,none⟩) _ (.inl h.lo),h.mem.lim.other (a:=⟨g,i*2,none⟩) (fun e=>h.limNe e.symm) _,h.mem.cur.other h.curNe _⟩
end
section
structure VsInv (le lh:Int) (vs:List Vec):Prop where
 all:∀v∈vs,CanV v∧LtV v∧v≠[]∧okV le lh v
 asc:vs.Pairwise fun u v=>yx u v= -1
theorem ybg {vs:List Vec} {v:Vec} (ha:vs.Pairwise fun u v=>yx u v= -1) (h:¬za4 vs v=true):∀u∈vs,yx u v= -1:=by
 intro u hu;unfold za4 at h;rw[List.getLast?_eq_getElem?] at h;have h0:0<vs.length:=List.length_pos_iff.2 (List.ne_nil_of_mem hu);rw[List.getElem?_eq_getElem (by omega)] at h;simp only[decide_eq_true_eq] at h
 have hl:yx (vs[vs.length - 1]'(by omega)) v= -1:=by
  rcases zhe (vs[vs.length - 1]'(by omega)) v with h1 | h1 | h1
  · exact h1
  · rw[h1] at h;exact absurd (Int.le_refl _) h
  · rw[h1] at h;exact absurd (by decide) h
 obtain⟨i,hi,rfl⟩:=List.getElem_of_mem hu;rcases Nat.lt_or_ge i (vs.length - 1) with h1 | h1
 · exact zju (List.pairwise_iff_getElem.1 ha i (vs.length - 1) hi (by omega) h1) hl
 · have e:i=vs.length - 1:=by omega
   subst e;exact hl
theorem zzd {T:ye} {E:Nat} {le lh:Int} (hT:T64 T):∀(n:Nat) (acc:List Vec) {p q:Nat} {vs:List Vec},kg T E le lh n acc p=.ok (vs,q)→VsInv le lh acc→
 ∀{P0:Nat},jq T P0 (acc.flatMap zan) p→jq T P0 (vs.flatMap zan) q∧VsInv le lh vs∧vs.length=acc.length+n
 | 0,acc,p,q,vs,h,hI,P0,hr=>by cases h;exact⟨hr,hI,rfl⟩
 | n+1,acc,p,q,vs,h,hI,P0,hr=>by
   rw[kg] at h;obtain⟨v,r,h1,h2⟩:=zaw h;obtain⟨a1,a2,a3,a4,a5⟩:=ya4 hT h1;split at h2
   · cases h2
   · rename_i ho
     obtain⟨b1,b2,b3⟩:=zzd hT n (acc++[v]) h2 ⟨fun x hx=>by
      rcases List.mem_append.1 hx with hx | hx
      · exact hI.all x hx
      · simp at hx;subst hx;exact⟨a2,a3,a4,a5⟩,List.pairwise_append.2 ⟨hI.asc,List.pairwise_singleton _ _,fun x hx y hy=>by
      simp at hy;subst hy;exact ybg hI.asc ho x hx⟩⟩ (P0:=P0) (by
      rw[List.flatMap_append];exact zbr.2 ⟨p,hr,by simpa using a1⟩)
     refine⟨b1,b2,?_⟩;rw[b3,List.length_append,List.length_cons,List.length_nil];omega
def zfy (l:List Iv) (x:List Nat):Nat→List Nat
 | 0=>[]
 | d+1=>zfy l x d++[vz l 0 d,(zb l d).2 - (zb l d).1,nth x d]
theorem zze (l:List Iv) (x:List Nat):∀d,vt l x d=l.length :: zfy l x d
 | 0=>rfl
 | d+1=>by rw[vt,zfy,zze l x d];rfl
theorem zly {l t:List Nat} {i:Nat} (h:i<l.length):nth (l++t) i=nth l i:=by simp[nth,List.getElem?_append_left h]
theorem zsn (l:List Nat) (x:Nat):nth (l++[x]) l.length=x:=by simp[nth]
theorem zzf (l t:List Iv) (x y:List Nat) (hl:l.length=x.length):∀d,d≤l.length→zfy (l++t) (x++y) d=zfy l x d
 | 0,_=>rfl
 | d+1,h=>by
   rw[zfy,zfy,zzf l t x y hl d (by omega),zdj h,zly (by omega)]
   have:vz (l++t) 0 d=vz l 0 d:=by
    unfold vz;rw[zdj (by omega),zdj (i:=d) h,zdj (by omega)]
   rw[this]
structure SInv (N:Nat) (l:List Iv) (ix:List Nat):Prop where
 diff:zdg l 0
 lt:zo l
 len:l.length=ix.length
 idx:∀i,i<l.length→nth ix i<N
 apart:∀i,0<i→i<l.length→(zb l i).1=(zb l (i - 1)).2+1→nth ix i≠nth ix (i - 1)
theorem zzg {T:ye} {N:Nat} (hT:T64 T):∀(m:Nat) (l:List Iv) (ix:List Nat) {p q:Nat} {l':List Iv} {ix':List Nat},vv T N m l ix p=.ok ((l',ix'),q)→SInv N l ix→
 ∀{P0:Nat},jq T P0 (zfy l ix l.length) p→jq T P0 (zfy l' ix' l'.length) q∧SInv N l' ix'∧l'.length=l.length+m
 | 0,l,ix,p,q,l',ix',h,hI,P0,hr=>by cases h;exact⟨hr,hI,rfl⟩
 | m+1,l,ix,p,q,l',ix',h,hI,P0,hr=>by
   rw[vv] at h;obtain⟨⟨s,w⟩,r,h1,h2⟩:=zaw h;obtain⟨d1,d2,d3⟩:=zy3 hT hI.diff hI.lt h1;unfold zdw at h2;obtain⟨x,r2,h3,h4⟩:=zaw h2;have t3:=zgv h3;split at h4
   · cases h4
   · rename_i hN;split at h4
     · cases h4
     · rename_i ht;simp only at ht h4
       obtain⟨b1,b2,b3⟩:=zzg hT m (l++[s]) (ix++[x]) h4 ⟨d1,d2,by simp[hI.len],fun i hi=>by
        rw[List.length_append,List.length_cons,List.length_nil] at hi;rcases Nat.lt_or_ge i l.length with h5 | h5
        · rw[zly (by rw[←hI.len];exact h5)];exact hI.idx i h5
        · rw[show i=ix.length by have:=hI.len;omega,zsn];omega,fun i h0 hi he=>by
        rw[List.length_append,List.length_cons,List.length_nil] at hi;rcases Nat.lt_or_ge i l.length with h5 | h5
        · rw[zdj h5,zdj (by omega)] at he;rw[zly (by rw[←hI.len];exact h5),zly (by rw[←hI.len];omega)];exact hI.apart i h0 h5 he
        · have e:i=l.length:=by omega
          subst e;rw[zlw,zdj (by omega)] at he;rw[hI.len,zsn,zly (by rw[←hI.len];omega)];intro e2;refine ht ⟨?_,?_⟩
          · unfold zc1;rw[zy2,if_neg (by omega)];simp only[decide_eq_true_eq];exact he
          · rw[List.getLast?_eq_getElem?,List.getElem?_eq_getElem (by rw[←hI.len];omega),e2];simp[nth,List.getElem?_eq_getElem (show ix.length - 1<ix.length by rw[←hI.len];omega)]⟩ (P0:=P0) (by
        rw[List.length_append,List.length_cons,List.length_nil,Nat.zero_add,zfy,zzf l [s] ix [x] hI.len l.length (Nat.le_refl _),zlw];rw[show nth (ix++[x]) l.length=x by rw[hI.len,zsn]];exact zbr.2 ⟨p,hr,zbr (a:=[vz (l++[s]) 0 l.length,s.2 - s.1]) (b:=[x]).2 ⟨r,d3,r2,t3,rfl⟩⟩)
       refine⟨b1,b2,?_⟩;rw[b3,List.length_append,List.length_cons,List.length_nil];omega
theorem zzh (L:List Seg) (i:Nat):∀d,d≤L.length→itB (yi L) ((qn L).map fun (n:Nat)=>(n:Int)) i d=((L.take d).filter fun p=>decide (p.2=i)).map (·.1)
 | 0,_=>by simp[itB]
 | d+1,h=>by
   have e1:zb (yi L) d=L[d].1:=by rw[jg (by rw[zb0];exact h)];simp[yi]
   have e2:ze6 ((qn L).map fun (n:Nat)=>(n:Int)) d=(L[d].2:Int):=by rw[zn8 (by simp[qn];exact h)];simp[qn]
   rw[itB,zzh L i d (by omega),e1,e2,List.take_succ_eq_append_getElem h,List.filter_append,List.map_append];congr 1;by_cases e:L[d].2=i
   · rw[if_pos (by omega),List.filter_cons_of_pos (by simpa using e)];rfl
   · rw[if_neg (by omega),List.filter_cons_of_neg (by simpa using e)];rfl
abbrev zso (p q:Seg):Prop:=p.1.2<q.1.1∧(p.2=q.2→p.1.2+1<q.1.1)
theorem zzi {N:Nat} {L:List Seg} (h:SInv N (yi L) (qn L)):L.Pairwise zso∧∀p∈L,p.1.1≤p.1.2∧p.2<N:=by
 have at1:∀i (hi:i<L.length),zb (yi L) i=L[i].1:=fun i hi=>by rw[jg (by rw[zb0];exact hi)];simp[yi]
 have at2:∀i (hi:i<L.length),nth (qn L) i=L[i].2:=fun i hi=>by simp[nth,qn,hi]
 have one:∀i (hi:i<L.length),L[i].1.1≤L[i].1.2:=fun i hi=>by
  have:=(h.diff i (by rw[zb0];exact hi)).1;rwa [at1 i hi] at this
 have stp:∀i (hi:i+1<L.length),zso L[i] L[i+1]:=fun i hi=>by
  have h1:=(h.diff (i+1) (by rw[zb0];exact hi)).2 (by omega);rw[show i+1 - 1=i by omega,at1 (i+1) hi,at1 i (by omega)] at h1;refine⟨by omega,fun e=>?_⟩;rcases Nat.lt_or_ge (L[i].1.2+1) L[i+1].1.1 with h2 | h2
  · exact h2
  · have h3:=h.apart (i+1) (by omega) (by rw[zb0];exact hi) (by rw[show i+1 - 1=i by omega,at1 (i+1) hi,at1 i (by omega)];omega);rw[show i+1 - 1=i by omega,at2 (i+1) hi,at2 i (by omega)] at h3;exact absurd e.symm h3
 refine⟨List.pairwise_iff_getElem.2 fun i j hi hj hij=>?_,fun p hp=>?_⟩
 · obtain⟨d,rfl⟩:∃d,j=i+1+d:=⟨j - i - 1,by omega⟩;clear hij
   induction d with
   | zero=>exact stp i hj
   | succ d ih=>
    have h1:=ih (by omega);have h2:=stp (i+1+d) hj;have h3:=one (i+1+d) (by omega);have e:L[i+1+d+1]'hj=L[i+1+(d+1)]'hj:=rfl;rw[e] at h2;exact⟨by have:=h1.1;have:=h2.1;omega,fun _=>by have:=h1.1;have:=h2.1;omega⟩
 · obtain⟨i,hi,rfl⟩:=List.getElem_of_mem hp;refine⟨one i hi,?_⟩;have:=h.idx i (by rw[zb0];exact hi);rwa [at2 i hi] at this
theorem zzj:∀{l:List Iv},(l.Pairwise fun s t=>s.2+1<t.1)→(∀s∈l,s.1≤s.2)→Good l
 | [],_,_=>znr fun i hi=>(by simp at hi)
 | s :: l,h,h2=>by
   obtain⟨a,b⟩:=List.pairwise_cons.1 h;exact zrb (h2 s List.mem_cons_self) a (zzj b fun t ht=>h2 t (List.mem_cons_of_mem _ ht))
end
section
structure Cut (m:Nat) (T T':ye) (E E':Nat):Prop where
 tok:∀p,T' p=T p∨T' p=.error m
 le:E'=E∨(m=5∧E'≤E)
def zdx {α:Type} (m:Nat) (a b:RR α):Prop:=b=a∨∃w,b=.error (m,w)
theorem zcg {m:Nat} {α β:Type} {a b:RR α} {f g:α→Nat→RR β} (h:zdx m a b) (hf:∀x q,zdx m (f x q) (g x q)):zdx m (thn a f) (thn b g):=by
 rcases h with rfl | ⟨w,rfl⟩
 · cases b with
   | error e=>exact .inl rfl
   | ok y=>exact hf y.1 y.2
 · exact .inr ⟨w,rfl⟩
theorem zch {m:Nat} {α:Type} (a:RR α):zdx m a a:=.inl rfl
variable {m:Nat} {T T':ye} {E E':Nat}
theorem zj8 (h:Cut m T T' E E') (p:Nat):zdx m (nmP T p) (nmP T' p):=by
 unfold nmP;rcases h.tok p with e | e
 · rw[e];exact .inl rfl
 · rw[e];exact .inr ⟨p,rfl⟩
theorem zon (h:Cut m T T' E E') (lim:Int) (p:Nat):zdx m (jf T E lim p) (jf T' E' lim p):=by
 unfold jf;refine zcg (zj8 h p) fun x q=>?_
 unfold ql;rcases h.le with rfl | ⟨rfl,hle⟩
 · exact zch _
 · by_cases h1:lim<(x:Int)∧x≠0
   · rw[if_pos h1,if_pos h1];exact zch _
   · rw[if_neg h1,if_neg h1];by_cases h2:E' - q<x
     · rw[if_pos h2];exact .inr ⟨p,rfl⟩
     · rw[if_neg h2,if_neg (show ¬E - q<x by omega)];exact zch _
theorem ybh (h:Cut m T T' E E') (lo q:Nat):zdx m (hiP T lo q) (hiP T' lo q):=zcg (zj8 h q) fun x q=>zch _
theorem zzk (h:Cut m T T' E E') (prev:Option Nat) (a p:Nat):zdx m (ivP T prev a p) (ivP T' prev a p):=by
 unfold ivP;refine zcg (zj8 h p) fun x q=>?_
 cases loP prev a x with
 | none=>exact zch _
 | some lo=>exact ybh h lo q
theorem zzl (h:Cut m T T' E E') (mx:Nat):∀n acc p,zdx m (ke T mx n acc p) (ke T' mx n acc p)
 | 0,acc,p=>zch _
 | n+1,acc,p=>by
   rw[ke,ke];refine zcg (zzk h _ _ p) fun s q=>?_
   unfold zc0;split
   · exact zch _
   · exact zzl h mx n _ q
theorem zzm (h:Cut m T T' E E') (lim:Int):∀n acc p,zdx m (vu T E lim n acc p) (vu T' E' lim n acc p)
 | 0,acc,p=>zch _
 | n+1,acc,p=>by
   rw[vu,vu];refine zcg ?_ fun e q=>zzm h lim n _ q
   unfold zao;refine zcg (zj8 h p) fun x q=>?_
   cases zbu acc x with
   | none=>exact zch _
   | some r=>exact zcg (zj8 h q) fun mx q=>zcg (zon h lim q) fun n q=>zcg (zzl h mx n [] q) fun _ _=>zch _
theorem zzn (h:Cut m T T' E E') (le lh:Int):∀n acc p,zdx m (kg T E le lh n acc p) (kg T' E' le lh n acc p)
 | 0,acc,p=>zch _
 | n+1,acc,p=>by
   rw[kg,kg];refine zcg (zcg (zon h le p) fun n q=>?_) fun v q=>?_
   · split
     · exact zch _
     · exact zzm h lh n [] q
   · split
     · exact zch _
     · exact zzn h le lh n _ q
theorem zzo (h:Cut m T T' E E') (N:Nat):∀k l ix p,zdx m (vv T N k l ix p) (vv T' N k l ix p)
 | 0,l,ix,p=>zch _
 | k+1,l,ix,p=>by
   rw[vv,vv];refine zcg (zzk h _ _ p) fun s q=>zcg (zj8 h q) fun x r=>?_
   split
   · exact zch _
   · split
     · exact zch _
     · exact zzo h N k _ _ r
theorem zzp (h:Cut m T T' E E') (L:zc) (p:Nat):zdx m (thn (jf T E L.2.1 p) fun n q=>thn (kg T E L.2.2.1 L.2.2.2.1 n [] q) fun vs q=>thn (jf T E L.2.2.2.2 q) fun m q=>thn (vv T vs.length m [] [] q) fun s q=>(.ok (qj vs s.1 s.2,q):RR Kno))
 (thn (jf T' E' L.2.1 p) fun n q=>thn (kg T' E' L.2.2.1 L.2.2.2.1 n [] q) fun vs q=>thn (jf T' E' L.2.2.2.2 q) fun m q=>thn (vv T' vs.length m [] [] q) fun s q=>.ok (qj vs s.1 s.2,q)):=
 zcg (zon h _ p) fun n q=>zcg (zzn h _ _ n [] q) fun vs q=>zcg (zon h _ q) fun m q=>zcg (zzo h _ m [] [] q) fun _ _=>zch _
theorem zsp (T:ye) (E:Nat) (L:zc) (p:Nat):jc T E L p=thn (thn (jf T E L.2.1 p) fun n q=>thn (kg T E L.2.2.1 L.2.2.2.1 n [] q) fun vs q=>thn (jf T E L.2.2.2.2 q) fun m q=>thn (vv T vs.length m [] [] q) fun s q=>(.ok (qj vs s.1 s.2,q):RR Kno)) fun c q=>zbq E c q:=by
 unfold jc zc2;rw[zbc];refine zca fun n q=>?_
 rw[zbc];refine zca fun vs q=>?_
 rw[zbc];refine zca fun m q=>?_
 rw[zbc]
 rfl
theorem ybi (h:Cut m T T' E E) (L:zc) (p:Nat):zdx m (jc T E L p) (jc T' E L p):=by
 rw[zsp,zsp];exact zcg (zzp h L p) fun c q=>zch _
theorem ybj (h:Cut 5 T T' E E') (hT':∀p x q,T' p=.ok (x,q)→q≤E') (L:zc) {p z:Nat} {c:Kno} (hp:p≤E') (hd:jc T E L p=.ok (c,z)) (hz:E'<z):∃w,jc T' E' L p=.error (5,w):=by
 have key:=zzp h L p;rw[zsp] at hd ⊢;obtain⟨c',z',h1,h2⟩:=zaw hd;rw[h1] at key
 have hz':z'=z:=by
  unfold zbq at h2;split at h2
  · cases h2
  · split at h2
    · cases h2
    · cases h2;rfl
 subst hz';rcases key with k | ⟨w,k⟩
 · exfalso;obtain⟨n,q1,a1,a2⟩:=zaw k;obtain⟨vs,q2,a3,a4⟩:=zaw a2;obtain⟨m,q3,a5,a6⟩:=zaw a4;obtain⟨s,q4,a7,a8⟩:=zaw a6;cases a8;have hq3:=hT' _ _ _ (zlv a5).1
   have seg_le:∀m l ix p l' q,vv T' vs.length m l ix p=.ok (l',q)→p≤E'→q≤E':=by
    intro m
    induction m with
    | zero=>intro l ix p l' q h hp;cases h;exact hp
    | succ m ih=>
     intro l ix p l' q h hp;rw[vv] at h;obtain⟨s,r,b1,b2⟩:=zaw h;unfold zdw at b2;obtain⟨x,r',b3,b4⟩:=zaw b2;split at b4
     · cases b4
     · split at b4
       · cases b4
       · exact ih _ _ _ _ _ b4 (hT' _ _ _ (zgv b3))
   have:=seg_le _ _ _ _ _ _ a7 hq3;omega
 · rw[k];exact⟨w,rfl⟩
end
section
open Go.RowKit
attribute [local go_sem] y9
structure HoleOut (base g n cap:Nat) (v:Vec) (r m:Nat) (h:List Iv) (W w':World) (gS cS:Nat) (S:Value):Prop where
 below:BelT base W w'
 cell:w'.cell? ⟨g,n*3+2,none⟩=some S
 frozen:w'.frozen? ⟨g,n*3+2,none⟩=false
 row:∀g' T C,Row W g' T C→T≠135→Row w' g' T C
 fin:∀w2,w'.grownBy w2 none→EntO (w2.setCell ⟨g,n*3+2,none⟩ (.slice (some ⟨gS,0,none⟩) h.length cS)) base (.slice (some ⟨g,0,none⟩) (n+1) cap) v r m h
theorem ybk {w W:World} {ops:Array Oper} {o:Oper} {a:Act} {K:Act→World→Prop} {Q:Exit→Act→World→Prop} {E:Prop} (hgd:o.guard=none) (s x:Operand)
 (ho:o.op=.call { callee:=.builtin .append,args:= #[s,x],argTypes:= #[123,123] }) (hty:o.type=123)
 {base g n cap:Nat} {v:Vec} {r m:Nat} {h:List Iv} (hE:EntO w base (.slice (some ⟨g,0,none⟩) (n+1) cap) v r m h) (hn:n=v.length) {S:Value} (hS:w.cell? ⟨g,n*3+2,none⟩=some S) (t:Iv) (hW:Below w.heap.size w W)
 (hs:a.eval s=S) (A:Option Addr) (c:Nat) (hx:a.eval x=.slice A 1 c) (hr:Rd W 2 A 1 (ivC [t])) (hb:h.length+1≤1000000000000)
 (hK:∀gS cS w',HoleOut base g n cap v r m (h++[t]) w w' gS cS S→K (a.put o.dst (.slice (some ⟨gS,0,none⟩) (h++[t]).length cS)) w'):
 if Region.wanted o (yielded ops a.tmps)=true then Oper.wp Tryz.prog o a W K Q else E:=by
 subst hn;obtain⟨S',w',hrun,⟨gS,cS,rfl⟩,h1,h2,h3,h4,h5,h6,h7⟩:=hE.hole hS t W hW A c hr hb;refine zft hgd s x _ ho _ _ hs hx _ w' (by rw[hty];exact hrun) ?_;have e:(h++[t]).length=h.length+1:=by simp
 rw[←e]
 have hbw:base≤w.heap.size:=by
  obtain⟨_,_,_,q1,q2,-⟩:=hE.at
  omega
 have hT:=BelT.to hW hbw;refine hK gS cS w' ⟨hT.grown h5 (Nat.le_trans hbw hW.size) (fun k hk=>(h6 k hk).1) (fun k hk=>(OkR.cells (h6 k hk).2.choose_spec.choose_spec zyg).back hT),h3,h4,fun g' T C hR hT=>(hR.later hW).grown h5 fun e=>?_,fun w2 hw2=>by rw[e];exact h7 w2 hw2⟩;obtain⟨-,C',fr,hk⟩:=h6 g' e.symm;replace hR:=hR.later hW;unfold Row at hR;rw[hk] at hR;injection hR with hR;injection hR with _ hR _;exact hT hR.symm
set_option maxRecDepth 100000 in
theorem ybl (base g:Nat) (L:zc) (nx:Value) (s:PS) (x rest:Nat) (w:World) (h:PkR w base g L nx s) (ht:s.tag=5) (hx:x<18446744073709551616) (hF:PFit s 900000000000) (he:0<s.ents):
 Calls Tryz.prog 343 #[.pointer (some ⟨g,0,none⟩),.int .u64 (x:Int),.int .i64 (rest:Int)] w (PkS w base g L (jm L.2.2.1 L.2.2.2.1 s x rest)):=by
 have hps:jm L.2.2.1 L.2.2.2.1 s x rest=if s.lo+x<18446744073709551616∧s.lo+x<s.mx then .ok (zah s s.hls (s.h++[(s.lo,s.lo+x)])) else .error 8:=by
  unfold jm;rw[ht];rfl
 rw[hps];clear hps;obtain⟨hg,V,cu,hR,hB⟩:=h;obtain⟨hE,c,y,rfl,hbc,hy,hC⟩:EntO w base V s.v s.rep s.mx s.h∧CuAt w base cu (some s.lo) s.h:=by unfold PkB at hB;rw[ht] at hB;exact hB
 obtain rfl:=hy s.lo rfl;obtain⟨ge,cap,rfl,hge,hgl,⟨Cg,fr,hrow⟩,-,-,-,-⟩:=hE.at
 have HC:=hid (zyi c 1 s.lo x s.h.getLast? w hC hF.lo hx);have HF:=hid hF;have q10:=hR.cell 10 rfl;have HR:=hid hR;have HE:=hid hE;have HCu:=hid hC;have Hne:=hid (hR.ne hC (by decide));have Hbw:=hid (show base≤w.heap.size by have:=hR.lt;omega);have He:=hid he;have hvl:s.v.length≤1000000000000:=by have:=hF.vl;omega
 have Hgg:=hid (show g≠ge from fun e=>by
  subst e;unfold Row at hR;rw[hrow] at hR;injection hR with hR;injection hR with _ hR _;cases hR)
 have Hcg:=hid (show c≠ge from fun e=>by
  subst e;unfold Row at hC;rw[hrow] at hC;injection hC with hC;injection hC with _ hC _;cases hC)
 have HoC:=hid (hC.okR zoi);have HoG:=hid (hR.okR zlq);have HoE:=hid (OkR.cells hrow zsd);clear hB hy hR hE hC hF hx he ht hrow;unfold zls at HC;by_cases hlt:s.lo+x<18446744073709551616
 · have HC2:=hid (HC.out.mono fun e w' h=>by rw[if_pos hlt] at h;exact h);have Hlt:=hid hlt;have Hs:=hid (show zo [(s.lo,s.lo+x)] from zhd HF.out.lo hlt);clear HC;obtain⟨n,hn⟩:∃n,n=s.v.length:=⟨_,rfl⟩;have Hn:=hid hn;rw[←hn] at hvl;clear hlt hn;generalize hz:s.lo+x=z at*;clear hz;by_cases hm:z<s.mx
   · rw[if_pos ⟨Hlt.out,hm⟩];have d1:decide ((s.mx:Int)≤(z:Int))=false:=by rw[decide_eq_false_iff_not];omega
     have d2:decide (s.mx≤z)=false:=by rw[decide_eq_false_iff_not];omega
     clear hm;go_enter Tryz.func343,Tryz.ntmps343;go_wp2_with fail;refine HC2.out.mono ?_;rintro e w1 ⟨rfl,hc1,hg1⟩;have hR1:=HR.out.grown hg1 (fun e=>Hne.out (by injection e));have hE1:=HE.out.grown (HCu.out.notT (by rintro(h | h | h) <;> cases h)) hg1;have Hb1:=hid ((BelT.refl base w).grown hg1 Hbw.out (fun k hk=>by injection hk with hk;omega) (zec HoC.out));have hbl:∀o,Below w1.heap.size w1 (w1.alloc o):=fun o=>(Below.refl _ _).alloc (Nat.le_refl _) _
     have q7:=fun o=>(hR1.later (hbl o)).cell 7 rfl
     obtain⟨ge',cap',e',-,-,-,c0,c1,cf,S,lim,cS,-⟩:=hE1.at
     have e2:ge'=ge:=by injection e' with e1;injection e1 with e1;injection e1 with e1;exact e1.symm
     subst e2;rw[←Hn.out] at c1 cS;have m1:∀o,(w1.alloc o).cell? ⟨ge',n*3+1,none⟩=some (.int .u64 ((s.mx:Nat):Int)):=fun o=>((hbl o).cell (p:=⟨ge',n*3+1,none⟩) (zf c1)).trans c1
     have HR1:=hid hR1;have HE1:=hid hE1;have Hc1:=hid hc1;clear hR1 hE1 hc1 hg1 e' c0 c1 cf cS hbl;rw[←Hn.out] at q7;unfold ivV;go_wp2_with fail;go_quiet ((go_at_call 336;exact Calls.quiet_of (zom g ge' n cap _ (by exact q7 _) hvl)));obtain⟨w2,hw2⟩:∃w2,w2=w1.alloc (.cells #[.int .u64 ((s.lo:Nat):Int),.int .u64 ((z:Nat):Int)] 135):=⟨_,rfl⟩;have hb2:Below w1.heap.size w1 w2:=by rw[hw2];exact(Below.refl _ _).alloc (Nat.le_refl _) _
     have hX:Row w2 w1.heap.size 135 [.int .u64 ((s.lo:Nat):Int),.int .u64 ((z:Nat):Int)]:=by rw[hw2];exact y7 _ _ _
     rw[←hw2];clear hw2 q7 m1;have hR2:=HR1.out.later hb2;have hE2:=HE1.out.later hb2;have q7:w2.cell? ⟨g,7,none⟩=some (.slice (some ⟨ge',0,none⟩) (n+1) cap):=by have:=hR2.cell 7 rfl;rw[←Hn.out] at this;exact this
     have x0:=hX.cell 0 rfl;have x1:=hX.cell 1 rfl;have HX:=hid hX;have HR2:=hid hR2;have HE2:=hid hE2;have Hb2:=hid hb2;obtain⟨ge2,cap2,e',-,-,-,c0,c1,cf,S,lim,cS,-⟩:=hE2.at
     have e2:ge2=ge':=by injection e' with e1;injection e1 with e1;injection e1 with e1;exact e1.symm
     subst e2;rw[←Hn.out] at cS hE2;have hhl:s.h.length+1≤1000000000000:=by have:=HF.out.hl;omega
     have Hhl:=hid hhl;have q7o:∀k o,((w2.drewN k).alloc o).cell? ⟨g,7,none⟩=some (.slice (some ⟨ge2,0,none⟩) (n+1) cap):=fun k o=>((((Below.refl w2.heap.size w2)).alloc (Nat.le_refl _) o).cell (p:=⟨g,7,none⟩) (zf q7)).trans q7
     have cSo:∀k o,((w2.drewN k).alloc o).cell? ⟨ge2,n*3+2,none⟩=some S:=fun k o=>((((Below.refl w2.heap.size w2)).alloc (Nat.le_refl _) o).cell (p:=⟨ge2,n*3+2,none⟩) (zf cS)).trans cS
     clear hX hR2 hb2 e' c0 c1 cf hhl;go_wp2_with fail
     go_region_law (first
      | (go_simp;go_at_call 336;refine(zom g ge2 n cap _ (by first | exact q7 | exact q7o _ _) hvl).mono ?_;rintro e w3 ⟨rfl,k,rfl⟩)
      | (refine ybk rfl (.tmp 38) (.tmp 40) rfl rfl hE2 Hn.out cS (s.lo,z) ?hW rfl _ _ rfl (yq (zh _ _ _ (by simp)) rfl rfl) Hhl.out ?_
         case hW=>repeat (first | exact Below.refl _ _ | refine Below.alloc ?_ (by simp) _ | refine Below.drew ?_ | refine z7 ?_ _)
         intro gS cS w4 hO;have hq:=hO.cell;have hf:=hO.frozen;have HO:=hid hO;clear hO))
     all_goals go_wp2_with fail
     all_goals
      have hR4:=HO.out.row g _ _ HR2.out (by decide);have hC4:=HO.out.row c _ _ (Hc1.out.later Hb2.out) (by decide);have hfin:=HO.out.fin w4 (vy _ _);have e9:(s.h++[(s.lo,z)]).length=s.h.length+1:=by simp
      rw[e9] at hfin;have hR5:=hR4.other (a:=⟨ge2,n*3+2,none⟩) Hgg.out (.slice (some ⟨gS,0,none⟩) (s.h.length+1) cS);have HC5:=hid (hC4.other (a:=⟨ge2,n*3+2,none⟩) Hcg.out (.slice (some ⟨gS,0,none⟩) (s.h.length+1) cS));have HB5:=hid ((((Hb1.out.trans (BelT.to Hb2.out (Nat.le_trans Hbw.out Hb1.out.size)))).trans HO.out.below).setCell (p:=⟨ge2,n*3+2,none⟩) hge (.slice (some ⟨gS,0,none⟩) (s.h.length+1) cS) HoE.out);have HH:=hid (zy8 g L nx _ _ s s.hls (s.h++[(s.lo,z)]) _ hR5 He.out HF.out.ents HF.out.hls);have HE5:=hid hfin;have HR5:=hid hR5;clear hR4 hC4 hfin e9 hR5 hq hf x0 x1 cSo q7o hE2 q10;refine HH.out.mono ?_;rintro e w6 ⟨rfl,hR6,hg6⟩;have HR6:=hid hR6;have hN:=HR5.out.notT (by rintro(h | h | h) <;> cases h);have HE6:=hid (HE5.out.grown hN hg6);have HC6:=hid (HC5.out.grown hg6 (fun e=>by injection e with e;exact Hne.out e.symm));have Hb6:=hid (HB5.out.grown hg6 (by have:=HB5.out.size;have:=Hbw.out;omega) (fun k hk=>by injection hk with hk;omega) (zec HoG.out));clear hR6 hN hg6;generalize hnh:zah s s.hls (s.h++[(s.lo,z)])=s' at*;have Hnh:=hid hnh;clear hnh;generalize hF:pkF g s'.tag=F at*;have HF':=hid hF;clear hF;go_wp2_with fail;go_ret2;refine⟨Hb6.out,nx,by rw[HF'.out];rfl,hg,_,_,HR6.out,?_⟩;rw[←Hnh.out];refine zy9 (by rw[←Hn.out];exact HE6.out) ⟨c,s.lo,rfl,hbc,fun y h=>(by cases h),?_⟩ (fun t ht=>?_)
      · have e8:(s.h++[(s.lo,z)]).getLast?=some (s.lo,z):=by simp
        rw[e8];exact HC6.out
      · rcases List.mem_append.1 ht with h | h
        · exact HF.out.h t h
        · exact Hs.out t h
   · rw[if_neg (fun h=>hm h.2)];have d1:decide ((s.mx:Int)≤(z:Int))=true:=by rw[decide_eq_true_iff];omega
     have d2:decide (s.mx≤z)=true:=by rw[decide_eq_true_iff];omega
     clear hm;go_enter Tryz.func343,Tryz.ntmps343;go_wp2_with fail;refine HC2.out.mono ?_;rintro e w1 ⟨rfl,hc1,hg1⟩;have hR1:=HR.out.grown hg1 (fun e=>Hne.out (by injection e));have hE1:=HE.out.grown (HCu.out.notT (by rintro(h | h | h) <;> cases h)) hg1;have Hb1:=hid ((BelT.refl base w).grown hg1 Hbw.out (fun k hk=>by injection hk with hk;omega) (zec HoC.out));have hbl:∀o,Below w1.heap.size w1 (w1.alloc o):=fun o=>(Below.refl _ _).alloc (Nat.le_refl _) _
     have q7:=fun o=>(hR1.later (hbl o)).cell 7 rfl
     obtain⟨ge',cap',e',-,-,-,c0,c1,cf,S,lim,cS,-⟩:=hE1.at
     have e2:ge'=ge:=by injection e' with e1;injection e1 with e1;injection e1 with e1;exact e1.symm
     subst e2;rw[←Hn.out] at c1;have m1:∀o,(w1.alloc o).cell? ⟨ge',n*3+1,none⟩=some (.int .u64 ((s.mx:Nat):Int)):=fun o=>((hbl o).cell (p:=⟨ge',n*3+1,none⟩) (zf c1)).trans c1
     have HRf:=hid (fun o=>hR1.later (hbl o));have HBf:=hid (fun o=>Hb1.out.trans (BelT.to (hbl o) (Nat.le_trans Hbw.out Hb1.out.size)));clear hR1 hE1 hc1 hg1 e' c0 c1 cf cS hbl;rw[←Hn.out] at q7;unfold ivV;go_wp2_with fail;go_quiet ((go_at_call 336;exact Calls.quiet_of (zom g ge' n cap _ (by exact q7 _) hvl)));all_goals go_wp2_with fail
     all_goals go_ret2
     all_goals exact⟨zfa (HBf.out _) _,rfl,_,HRf.out _,rfl⟩
 · have HC2:=hid (HC.out.mono fun e w' h=>by rw[if_neg hlt] at h;exact h);rw[if_neg (fun h=>hlt h.1)];clear HC hlt;go_enter Tryz.func343,Tryz.ntmps343;go_wp2_with fail;refine HC2.out.mono ?_;rintro e w1 ⟨rfl,hc1,hg1⟩;have hR1:=HR.out.grown hg1 (fun e=>Hne.out (by injection e));have Hb1:=hid ((BelT.refl base w).grown hg1 Hbw.out (fun k hk=>by injection hk with hk;omega) (zec HoC.out));have hbl:∀o,Below w1.heap.size w1 (w1.alloc o):=fun o=>(Below.refl _ _).alloc (Nat.le_refl _) _
   have HRf:=hid (fun o=>hR1.later (hbl o));have HBf:=hid (fun o=>Hb1.out.trans (BelT.to (hbl o) (Nat.le_trans Hbw.out Hb1.out.size)));clear hR1 hc1 hg1 hbl;unfold ivV;go_wp2_with fail;go_quiet (fail);all_goals go_wp2_with fail
   all_goals go_ret2
   all_goals exact⟨zfa (HBf.out _) _,rfl,_,HRf.out _,rfl⟩
end
section
open Go.RowKit
theorem UsedM.grownT {w w':World} {U g:Nat} {ix:List Nat} {T:TypeId} {C:List Value} (h:UsedM w U ix) (hR:Row w g T C) (hg:w.grownBy w' (some g)):UsedM w' U ix:=
 h.same (hg.block U h.lt (fun e=>by injection e with e;exact h.ne (show w.heap[g]?=_ from hR) e))
structure VRows (w:World) (base R:Nat) (L:zc) (part K:Value) (U C B left:Nat) (fr:Int) (ip:Value) (ix:List Nat) (vs:List Vec):Prop where
 row:Row w R 155 (wkC L part K U C .nilIface)
 vrow:Row w B 236 (vcC left fr ip)
 cur:Row w C 230 (k8 C 0 0 none false)
 used:UsedM w U ix
 kv:KV w base K vs
theorem zoo {W:World} {base R:Nat} {L:zc} {part K:Value} {U C B left:Nat} {fr:Int} {ip:Value} {ix:List Nat} {vs:List Vec} (h:VRows W base R L part K U C B left fr ip ix vs) (hb:base≤R) {V:Value} {v:Vec} (hV:EnSl W 0 V v) (hl:vs.length+1≤1000000000000):
 ∃gK cK w3,(Builtin.append_ #[48,48] 48 #[K,.slice (some ⟨W.heap.size,0,none⟩) 1 1]).run Tryz.prog (W.alloc (.cells #[.slice none 0 0,V] 127))=.ok (.slice (some ⟨gK,0,none⟩) (vs.length+1) cK) w3∧BelT base W w3∧
  Row w3 R 155 (wkC L part K U C .nilIface)∧Row w3 B 236 (vcC left fr ip)∧Row w3 C 230 (k8 C 0 0 none false)∧UsedM w3 U ix∧KV w3 base (.slice (some ⟨gK,0,none⟩) (vs.length+1) cK) (vs++[v]):=by
 have hal:Below W.heap.size W (W.alloc (.cells #[.slice none 0 0,V] 127)):=(Below.refl _ _).alloc (Nat.le_refl _) _;have hbW:base≤W.heap.size:=by have:=h.row.lt;omega
 have hVs:EnSl (W.alloc (.cells #[.slice none 0 0,V] 127)) 0 V v:=hV.steady (P:=fun _=>True) (.of_below hal) trivial trivial;have hKa:=h.kv.later hal;obtain⟨K',w3,hrun,hK',hg,hk⟩:=hKa.snoc hVs (some ⟨W.heap.size,0,none⟩) 1 (yq (zh W (.cells #[.slice none 0 0,V] 127) _ rfl) rfl rfl) hl (Nat.le_trans hbW hal.size);have hK2:=hK';obtain⟨Y,hoK,-⟩:=hK2;obtain⟨gK,cK,e,-⟩:=zcz hoK (by simp);have eL:(vs++[v]).length=vs.length+1:=by simp
 rw[eL] at e;subst e;obtain⟨Y0,ho0,-⟩:=hKa;have ne:∀{g T C},Row (W.alloc (.cells #[.slice none 0 0,V] 127)) g T C→T≠127→some g≠K.ownBlock:=fun hR hT e=>hR.ne_own ho0 hT _ e.symm rfl
 refine⟨gK,cK,w3,hrun,(BelT.to hal hbW).grown hg (Nat.le_trans hbW hal.size) hk (fun k e=>(OkR.own ho0 zyh k e).back (BelT.to hal hbW)),(h.row.later hal).grown hg (ne (h.row.later hal) (by decide)),(h.vrow.later hal).grown hg (ne (h.vrow.later hal) (by decide)),(h.cur.later hal).grown hg (ne (h.cur.later hal) (by decide)),?_,hK'⟩;have hU:=h.used.same (hal.block U h.used.lt);refine hU.same (hg.block U hU.lt fun e=>?_);rcases ho0.2 with ⟨e',_⟩ | ⟨b,cap,cur,e',_,hh,_⟩
 · rw[e'] at e;cases e
 · rw[e'] at e;injection e with e;subst e;exact hU.ne hh rfl
theorem zhp {w:World} {base R:Nat} {L:zc} {part K:Value} {U C B left:Nat} {fr:Int} {ip:Value} {ix:List Nat} {vs:List Vec} {K':Value} (hR:Row w R 155 (wkC L part K U C .nilIface)) (hB:Row w B 236 (vcC left fr ip)) (hC:Row w C 230 (k8 C 0 0 none false)) (hu:UsedM w U ix) (hK:KV w base K' vs) (left':Nat):
 VRows (((w.setCell ⟨R,6,none⟩ K').setCell ⟨B,1,none⟩ (.int .i64 (-1))).setCell ⟨B,0,none⟩ (.int .u64 (left':Int))) base R L part K' U C B left' (-1) ip ix vs:=by
 have g1:=qh w R 6 K';have hR1:Row (w.setCell ⟨R,6,none⟩ K') R 155 (wkC L part K' U C .nilIface):=hR.set 6 _;have nRB:=hR.ne hB (by decide);have hB1:=hB.grown g1 (fun e=>by injection e with e;exact nRB e.symm);have hC1:=hC.grown g1 (fun e=>by injection e with e;exact hR.ne hC (by decide) e.symm);have hu1:=hu.grownT hR g1;have hK1:=hK.grown (hR.notT (by rintro(h | h | h) <;> cases h)) g1;have g2:(w.setCell ⟨R,6,none⟩ K').grownBy (((w.setCell ⟨R,6,none⟩ K').setCell ⟨B,1,none⟩ (.int .i64 (-1))).setCell ⟨B,0,none⟩ (.int .u64 (left':Int))) (some B):=yz (a:=⟨B,0,none⟩) (yz (a:=⟨B,1,none⟩) (vy _ _) _ (.inr rfl)) _ (.inr rfl);refine⟨hR1.grown g2 (fun e=>by injection e with e;exact nRB e),(hB1.set 1 (.int .i64 (-1))).set 0 (.int .u64 (left':Int)),hC1.grown g2 (fun e=>by injection e with e;exact hB1.ne hC1 (by decide) e.symm),hu1.grownT hB1 g2,hK1.grown (hB1.notT (by rintro(h | h | h) <;> cases h)) g2⟩
theorem VRows.more {w:World} {base R:Nat} {L:zc} {K ip:Value} {U C B left:Nat} {s:WS} {vs:List Vec} (h:VRows w base R L (.iface 233 (.pointer (some ⟨B,0,none⟩))) K U C B left (-1) ip s.ix vs) (ht:s.tag=1) (hR:base≤R) (hU:base≤U) (hC:base≤C) (hB:base≤B):WkR w base R L { s with vs:=vs,left:=left,inner:=ps0 }:=by
 refine⟨hR,_,K,U,C,hU,hC,h.row,h.used,?_⟩;unfold WkB;simp only[ht];exact⟨B,rfl,hB,h.cur,.inl ⟨rfl,⟨ip,h.vrow⟩,h.kv⟩⟩
theorem VRows.mid {w:World} {base R:Nat} {L:zc} {part K ip:Value} {U C B left:Nat} {fr:Int} {s:WS} {vs:List Vec} (h:VRows w base R L part K U C B left fr ip s.ix vs) (hR:base≤R) (hU:base≤U) (hC:base≤C):WkR (w.setCell ⟨R,5,none⟩ (.iface 237 (.agg #[]))) base R L { s with tag:=2,vs:=vs,left:=0,inner:=ps0 }:=by
 have g1:=qh w R 5 (.iface 237 (.agg #[]));exact⟨hR,_,K,U,C,hU,hC,h.row.set 5 _,h.used.grownT h.row g1,rfl,h.kv.grown (h.row.notT (by rintro(h | h | h) <;> cases h)) g1,h.cur.grown g1 (fun e=>by injection e with e;exact h.row.ne h.cur (by decide) e.symm)⟩
