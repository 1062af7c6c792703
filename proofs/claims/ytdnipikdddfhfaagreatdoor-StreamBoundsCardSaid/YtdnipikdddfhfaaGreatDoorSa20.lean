/- Part 20. -/
import Derived.Deep.Onto
import Derived.Lib.IfaceEq
import Derived.Laws.ResultCell
import Derived.Test.YtdnipikdddfhfaaGreatDoorSa19
set_option linter.unusedVariables false
set_option maxHeartbeats 16000000
namespace Go.Proofs.YtdnipikdddfhfaaGreatDoor
open Lib (hid)
section
open Go.RowKit
def zdh (T:TypeId):Prop:=yz T∨T=193∨T=282∨T=130∨T=199∨T=204
structure KeepR (w w':World):Prop where
 st:Steady 0 zdh w w'
 mp:∀(k:Nat) (es:Array MapEntry) (c:Nat),w.heap[k]?=some (Obj.map es c)→w'.heap[k]?=w.heap[k]?
theorem KeepR.fr {w w':World} (h:KeepR w w'):Steady 0 yz w w':=h.st.weak fun T hT=>.inl hT
theorem KeepR.of_below {w w':World} (h:Below w.heap.size w w'):KeepR w w':=⟨.of_below h,fun k es c hk=>h.block k (Array.getElem?_eq_some_iff.1 hk).1⟩
theorem KeepR.refl (w:World):KeepR w w:=.of_below (Below.refl _ _)
theorem KeepR.trans {a b c:World} (h:KeepR a b) (k:KeepR b c):KeepR a c:=⟨h.st.trans k.st,fun i es cl hi=>(k.mp i es cl ((h.mp i es cl hi).trans hi)).trans (h.mp i es cl hi)⟩
theorem KeepR.row {w w':World} {g:Nat} {T:TypeId} {C:List Value} (hR:Row w g T C) (hT:¬zdh T) (hg:w.grownBy w' (some g)):KeepR w w':=
 ⟨⟨hg.size,fun k hk hp=>hg.block k hk fun e=>by
   injection e with e;subst e;rcases hp with h' | ⟨C',T',fr,hT',h'⟩
   · omega
   · rw[show w.heap[k]?=_ from hR] at h';injection h' with h';injection h' with _ h' _;subst h';exact hT hT'⟩,fun k es c hk=>hg.block k (Array.getElem?_eq_some_iff.1 hk).1 fun e=>by
   injection e with e;subst e;rw[show w.heap[k]?=_ from hR] at hk;injection hk with hk;cases hk⟩
theorem KeepR.own {w w':World} {base sz n:Nat} {e:TypeId} {v:Value} {xs:List Value} (ho:w.ownsRow base e sz v n xs) (hg:w.grownBy w' v.ownBlock) (he:¬zdh e):KeepR w w':=
 ⟨Steady.grown ho hg he |>.lower (Nat.zero_le _),fun k es c hk=>hg.block k (Array.getElem?_eq_some_iff.1 hk).1 fun hr=>by
  rcases ho.2 with ⟨rfl,_⟩ | ⟨g,cap,cur,rfl,hb,hh,_⟩
  · simp[Value.ownBlock] at hr
  · simp[Value.ownBlock] at hr;subst hr;rw[hh] at hk;injection hk with hk;cases hk⟩
theorem OwnV.stead {w w':World} {base:Nat} {V:Value} {v:Vec} (hE:OwnV w base V v) (hs:Steady 0 yz w w'):OwnV w' base V v:=by
 obtain⟨ss,h5,h6⟩:=hE;exact⟨ss,zav h5 hs (.inr (.inl rfl)),h6.steady hs (.inl rfl)⟩
theorem EntO.stead {w w':World} {base:Nat} {V:Value} {v:Vec} {r m:Nat} {h:List Iv} (hE:EntO w base V v r m h) (hs:Steady 0 yz w w'):EntO w' base V v r m h:=by
 obtain⟨lim,ss,S,h3,h4,h5,h6,h7,h8⟩:=hE;exact⟨lim,ss,S,h3,Nat.le_trans h4 hs.size,zav h5 hs (.inr (.inl rfl)),h6.steady hs (.inl rfl),h7,zav h8 hs (.inl rfl)⟩
theorem Row.keepR {w w':World} {g:Nat} {T:TypeId} {C:List Value} (h:Row w g T C) (hk:KeepR w w') (hT:zdh T):Row w' g T C:=h.steady hk.st (.inl hT)
theorem CuAt.keepR {w w':World} {base:Nat} {cu:Value} {lo:Option Nat} {h:List Iv} (hc:CuAt w base cu lo h) (hk:KeepR w w'):CuAt w' base cu lo h:=by
 obtain⟨c,x,h1,h2,h3,h4⟩:=hc;exact⟨c,x,h1,h2,h3,h4.keepR hk (.inr (.inl rfl))⟩
theorem PkB.keepR {w w':World} {base:Nat} {s:PS} {V cu:Value} (h:PkB w base s V cu) (hk:KeepR w w'):PkB w' base s V cu:=by
 unfold PkB at h ⊢;split at h
 · exact h
 · exact h.stead hk.fr
 · exact h.stead hk.fr
 · exact h.stead hk.fr
 · exact⟨h.1.stead hk.fr,h.2.keepR hk⟩
 · exact⟨h.1.stead hk.fr,h.2.keepR hk⟩
 · exact h.stead hk.fr
theorem PkR.keepR {w w':World} {base g:Nat} {L:za} {nx:Value} {s:PS} (h:PkR w base g L nx s) (hk:KeepR w w'):PkR w' base g L nx s:=by
 obtain⟨h1,V,cu,h2,h3⟩:=h;exact⟨h1,V,cu,h2.keepR hk (.inr (.inr (.inl rfl))),h3.keepR hk⟩
theorem UsedM.keepR {w w':World} {U:Nat} {ix:List Nat} (h:UsedM w U ix) (hk:KeepR w w'):UsedM w' U ix:=by
 have h0:=h;obtain⟨n,D,⟨es,clock,h1,h2⟩,h3⟩:=h;exact h0.same (hk.mp U es clock h1)
theorem VecAt.keepR {w w':World} {base R:Nat} {L:za} {K:Value} {U C B:Nat} {s:WS} (h:VecAt w base R L K U C B s) (hk:KeepR w w'):VecAt w' base R L K U C B s:=by
 rcases h with ⟨h1,⟨ip,h2⟩,h3⟩ | ⟨h1,P,pb,wb,h2,h3,h4,h5,b1,b2,b3,b4,b5,h6⟩
 · exact .inl ⟨h1,⟨ip,h2.keepR hk (.inr (.inr (.inr (.inr (.inl rfl)))))⟩,h3.steady hk.fr⟩
 · exact .inr ⟨h1,P,pb,wb,h2.keepR hk (.inr (.inr (.inr (.inr (.inl rfl))))),h3,h4.trans hk.fr,h5,b1,b2,b3,b4,b5,h6.keepR hk⟩
theorem WkR.keepR {w w':World} {base R:Nat} {L:za} {s:WS} (h:WkR w base R L s) (hk:KeepR w w'):WkR w' base R L s:=by
 obtain⟨hR0,part,K,U,C,hU,hC,hR,hu,hB⟩:=h;have hc:zdh 193:=.inr (.inl rfl);refine⟨hR0,part,K,U,C,hU,hC,hR.keepR hk (.inr (.inr (.inr (.inl rfl)))),hu.keepR hk,?_⟩;unfold WkB at hB ⊢;split at hB
 · exact⟨hB.1,hB.2.1.steady hk.fr,hB.2.2.keepR hk hc⟩
 · obtain⟨B,e,hB0,hc',hV⟩:=hB;exact⟨B,e,hB0,hc'.keepR hk hc,hV.keepR hk⟩
 · exact⟨hB.1,hB.2.1.steady hk.fr,hB.2.2.keepR hk hc⟩
 · obtain⟨B,e,hB0,hM,last,touch,lo0,h1,h2,h3,h4⟩:=hB;exact⟨B,e,hB0,hM.steady hk.fr,last,touch,lo0,h1.keepR hk (.inr (.inr (.inr (.inr (.inr rfl))))),h2,h3,h4.keepR hk hc⟩
 · exact⟨hB.1,hB.2.steady hk.fr⟩
theorem DcR.keep {w w':World} {d:Nat} {L:za} {s:Dc} {vp:Option Addr} {y:Value} (h:DcR w d L s vp y) (hg:w.grownBy w' (some d)):KeepR w w':=KeepR.row h (by unfold zdh yz;decide) hg
end
section
open Go.RowKit
attribute [local go_sem] yq Tryz.eqGuard_if
structure RdI (L:za) (l:List Nat) (s:WS) (p:Nat):Prop where
 j:RdJ s p
 pl:p≤l.length
 eq:zak (qs l) l.length L s p=zaq L l
theorem RdI.start {L:za} {l:List Nat}:RdI L l ws0 0:=⟨RdJ.start,Nat.zero_le _,rfl⟩
theorem RdJ.ok {L:za} {s:WS} {E x p q:Nat} (h:RdJ s p) (hL:LimsI L) (hx:x<18446744073709551616) (hq:q=p+(yf x).length) (hqE:q≤E) (hqb:q≤900000000000) (hE:E - q<9223372036854775808):StepOk L s E x p q:=
 ⟨hL,hx,hq,hqE,hqb,hE,h.fit,h.inv,h.tch,h.tag,fun v hv=>by have:=h.num v hv;omega,fun h1 i hi h6=>by have:=h.inner h1 hi h6;have:=zcc 9 x;rw[←zcu] at this;omega⟩
theorem RdI.bad {L:za} {l:List Nat} {s:WS} {p c:Nat} (h:RdI L l s p) (ht:qs l p=.error c):zaq L l=.error (c,p):=by
 rw[←h.eq,zhe _ _ _ _ _ h.j.inv h.j.tag];unfold nmP;rw[ht]
 rfl
theorem RdI.good {L:za} {l:List Nat} {s:WS} {p x q:Nat} (h:RdI L l s p) (ht:qs l p=.ok (x,q)):zaq L l=match ye l.length L s x p q with | .error e=>.error e | .ok s'=>zak (qs l) l.length L s' q:=by
 rw[←h.eq,zhe _ _ _ _ _ h.j.inv h.j.tag];unfold nmP;rw[ht]
 rfl
theorem RdI.next {L:za} {l:List Nat} {s s':WS} {p x q:Nat} (hl:∀c∈l,c<256) (h:RdI L l s p) (ht:qs l p=.ok (x,q)) (hs:ye l.length L s x p q=.ok s') (h4:s'.tag<4):RdI L l s' q:=by
 obtain⟨t1,t2,t3,-,-⟩:=zb2 hl ht;refine⟨h.j.next t3 t1 hs h4,t2,?_⟩;have:=h.good ht;rw[hs] at this;exact this.symm
theorem RdI.ok {L:za} {l:List Nat} {s:WS} {p x q:Nat} (hl:∀c∈l,c<256) (hL:LimsI L) (hE:l.length<900000000000) (h:RdI L l s p) (ht:qs l p=.ok (x,q)):StepOk L s l.length x p q:=by
 obtain⟨t1,t2,t3,-,t5⟩:=zb2 hl ht;exact h.j.ok hL t3 t5 t2 (by omega) (by omega)
end
section
open Go.RowKit
attribute [local go_sem] yq Tryz.eqGuard_if
set_option maxRecDepth 20000 in
theorem zwj (w:World) (base R:Nat) (L:za) (s:WS) (h:WkR w base R L s) (ht:s.tag=4) (hl:yi s.l):Calls Tryz.prog 28 #[.pointer (some ⟨R,0,none⟩)] w fun e w'=>(∃K,e=.returned K∧KnoS w' K (zx s.vs s.l s.ix))∧Below w.heap.size w w':=by
 obtain⟨hR0,part,K,U,C,hU,hC,hR,hu,hB⟩:=h;obtain⟨hn,-⟩:=zh4 hB (by omega);simp only[ht,decide_true,Bool.not_true] at hn;unfold WkB at hB;simp only[ht] at hB;obtain⟨rfl,hM⟩:=hB;have hK:KnoS w K (zx s.vs s.l s.ix):=⟨_,_,_,_,hM,hl,rfl⟩;obtain⟨a,c,rfl,-⟩:=hM.frags hl;have q9:=hR.cell 9 rfl;have q5:=hR.cell 5 rfl;have q2:=hR.cell 6 rfl;have HK:=hid hK;unfold zcn at q5 hn;clear hR hu hM hl ht hK;go_enter Tryz.func28,Tryz.ntmps28;go_wp2_with fail;go_ret;exact⟨⟨_,rfl,HK.out⟩,Below.refl _ _⟩
structure RdO (L:za) (l:List Nat) (st k:Nat) (s:WS) (pc:Nat):Prop where
 j:RdJ s (st+pc)
 pl:pc≤min k (l.length - st)
 eq:zak (zb l (st+k)) (st+k) L s (st+pc)=yd (zb l (st+k)) (st+k) L st
theorem RdO.start {L:za} {l:List Nat} {st k:Nat}:RdO L l st k ws0 0:=⟨RdJ.start.mono (Nat.zero_le _),Nat.zero_le _,rfl⟩
theorem RdO.next {L:za} {l:List Nat} {st k:Nat} {s s':WS} {pc x j:Nat} (hl:∀c∈l,c<256) (h:RdO L l st k s pc) (ht:zb l (st+k) (st+pc)=.ok (x,st+j)) (hs:ye (st+k) L s x (st+pc) (st+j)=.ok s') (h4:s'.tag<4):RdO L l st k s' j:=by
 obtain⟨t1,t2,t3,t4,-⟩:=ve hl ht;refine⟨h.j.next t4 t1 hs h4,by omega,?_⟩;have:=(zcp h.j h.eq).2 _ _ ht;rw[hs] at this;exact this.symm
end
section
open Go.RowKit
attribute [local go_sem] yq Tryz.eqGuard_if
def KnosL (w:World):List Value→List Kno→Prop
 | [],[]=>True
 | K :: Ks,k :: ks=>KnoS w K k∧KnosL w Ks ks
 | _,_=>False
theorem KnosL.steady {w w':World} (hs:Steady 0 yz w w'):∀{Ks:List Value} {ks:List Kno},KnosL w Ks ks→KnosL w' Ks ks
 | [],[],_=>trivial
 | _ :: _,_ :: _,h=>⟨h.1.steady hs,KnosL.steady hs h.2⟩
 | [],_ :: _,h=>h.elim
 | _ :: _,[],h=>h.elim
theorem KnosL.len {w:World}:∀{Ks:List Value} {ks:List Kno},KnosL w Ks ks→Ks.length=ks.length
 | [],[],_=>rfl
 | _ :: _,_ :: _,h=>by rw[List.length_cons,List.length_cons,KnosL.len h.2]
 | [],_ :: _,h=>h.elim
 | _ :: _,[],h=>h.elim
theorem KnosL.snoc {w:World} {K:Value} {k:Kno} (hK:KnoS w K k):∀{Ks:List Value} {ks:List Kno},KnosL w Ks ks→KnosL w (Ks++[K]) (ks++[k])
 | [],[],_=>⟨hK,trivial⟩
 | _ :: _,_ :: _,h=>⟨h.1,KnosL.snoc hK h.2⟩
 | [],_ :: _,h=>h.elim
 | _ :: _,[],h=>h.elim
theorem KnosL.at {w:World}:∀{Ks:List Value} {ks:List Kno} {i:Nat},KnosL w Ks ks→(hi:i<ks.length)→∃K,Ks[i]?=some K∧KnoS w K ks[i]
 | [],[],i,_,hi=>absurd hi (Nat.not_lt_zero i)
 | K :: _,_ :: _,0,h,_=>⟨K,rfl,h.1⟩
 | _ :: _,_ :: _,i+1,h,hi=>KnosL.at h.2 (Nat.lt_of_succ_lt_succ hi)
 | [],_ :: _,_,h,_=>h.elim
 | _ :: _,[],_,h,_=>h.elim
def KnosM (w:World) (base:Nat) (V:Value) (ks:List Kno):Prop:=∃Ks,w.ownsRow base 27 1 V ks.length Ks∧KnosL w Ks ks
theorem zh5 (w:World) (base:Nat):KnosM w base (.slice none 0 0) []:=⟨[],World.ownsRow_nil _ _ _ _,trivial⟩
theorem KnosM.later {w w':World} {base:Nat} {V:Value} {ks:List Kno} (h:KnosM w base V ks) (hb:Below w.heap.size w w'):KnosM w' base V ks:=by
 obtain⟨Ks,h1,h2⟩:=h;exact⟨Ks,yk h1 hb,h2.steady (.of_below hb)⟩
theorem KnosM.slice {w:World} {base:Nat} {V:Value} {ks:List Kno} (h:KnosM w base V ks):∃a c,V=.slice a ks.length c:=by
 obtain⟨Ks,h1,-⟩:=h;exact jm h1
theorem Tryz.info_kno:(Tryz.prog.info? 27).map (fun i=>(i.zero,i.size,i.bytes))=some (some (.slice none 0 0),1,24):=by kernel_rfl
theorem zn5 {w:World} {base:Nat} {V K:Value} {ks:List Kno} {k:Kno} (h:KnosM w base V ks) (hK:KnoS w K k) (hb:ks.length≤1000000) (hbase:base≤w.heap.size):
 ∃V' w',(Builtin.append_ #[55,55] 55 #[V,.slice (some ⟨w.heap.size,0,none⟩) 1 1]).run Tryz.prog (w.alloc (.cells #[K] 27))=.ok V' w'∧KnosM w' base V' (ks++[k])∧
  ∃Ks,(w.alloc (.cells #[K] 27)).ownsRow base 27 1 V ks.length Ks∧(w.alloc (.cells #[K] 27)).grownBy w' V.ownBlock:=by
 have hal:=(Below.refl w.heap.size w).alloc (Nat.le_refl _) (.cells #[K] 27);obtain⟨Ks,h1,h2⟩:=h;have h1':=yk h1 hal;have h2':=h2.steady (.of_below hal);have hK':=hK.later hal
 obtain⟨V',w',e1,e2,e3⟩:=zbu base 55 55 27 _ 1 24 Tryz.underlying55 Tryz.info_kno rfl (by omega) V ks.length Ks h1' (some ⟨w.heap.size,0,none⟩) 1 1 [K] (zbg _ _ _ 1 _ rfl rfl) (by
  intro u hu;obtain rfl:=List.mem_singleton.1 hu;obtain⟨a,c,rfl,-⟩:=hK.frags
  rfl) (by unfold maxLen;omega) (by omega) (by simp only[World.size_alloc];omega)
 have hs:Steady 0 yz _ w':=(Steady.grown (base:=base) h1' e3 (show ¬yz 27 by rintro(h | h | h) <;> cases h)).lower (Nat.zero_le _);exact⟨V',w',e1,⟨Ks++[K],by rw[List.length_append];exact e2,(h2'.steady hs).snoc (hK'.steady hs)⟩,Ks,h1',e3⟩
structure TwoM (w wr:World) (base:Nat) (o E:Value) (ks:List Kno) (es:List Nat):Prop where
 lo:w.heap.size≤base
 hi:base≤wr.heap.size
 kn:KnosM wr base o ks
 en:wr.ownsRow base 3 1 E es.length (qz es)
 gr:w.grownBy wr none
theorem TwoM.later {w wr w':World} {base:Nat} {o E:Value} {ks:List Kno} {es:List Nat} (h:TwoM w wr base o E ks es) (hb:Below wr.heap.size wr w'):TwoM w w' base o E ks es:=
 ⟨h.lo,Nat.le_trans h.hi hb.size,h.kn.later hb,yk h.en hb,ym h.gr hb⟩
theorem TwoM.put {w wr:World} {base g i:Nat} {o E:Value} {ks:List Kno} {es:List Nat} {T:TypeId} {C:List Value} (h:TwoM w wr base o E ks es) (hr:Row wr g T C) (hT:¬yz T) (hg:w.heap.size≤g) (hb:g<base) (v:Value):TwoM w (wr.setCell ⟨g,i,none⟩ v) base o E ks es:=by
 obtain⟨Ks,k1,k2⟩:=h.kn;exact⟨h.lo,by have:=h.hi;simpa using this,⟨Ks,ownsRow_setCell_below k1 hb _,k2.steady (Steady.setCell (a:=⟨g,i,none⟩) (C:=C.toArray) (e:=T) (fr:=(0,0)) hr (Nat.zero_le _) hT)⟩,ownsRow_setCell_below h.en hb _,zk h.gr v (.inl hg)⟩
theorem KnosM.mono {w:World} {base b:Nat} {V:Value} {ks:List Kno} (h:KnosM w base V ks) (hb:b≤base):KnosM w b V ks:=by
 obtain⟨Ks,h1,h2⟩:=h;exact⟨Ks,zad h1 hb,h2⟩
end
section
open Go.RowKit
attribute [local go_sem] yq
theorem TwoM.grown {w wr w':World} {base g:Nat} {o E:Value} {ks:List Kno} {es:List Nat} {T:TypeId} {C:List Value} (h:TwoM w wr base o E ks es) (hr:Row wr g T C) (hT:¬yz T) (h1:T≠27) (h2:T≠3) (hg:wr.grownBy w' (some g)) (hgb:w.heap.size≤g):TwoM w w' base o E ks es:=by
 obtain⟨Ks,k1,k2⟩:=h.kn
 exact⟨h.lo,Nat.le_trans h.hi hg.size,⟨Ks,yj k1 fun j hj=>hg.block j (k1.lt j hj).2 (fun e=>by injection e with e;exact hr.ne_own k1 h1 j hj e),k2.steady (zb1 (hr.notT hT) (Nat.zero_le _) hg)⟩,
  yj h.en fun j hj=>hg.block j (h.en.lt j hj).2 (fun e=>by injection e with e;exact hr.ne_own h.en h2 j hj e),zbb h.gr hg fun k hk=>by injection hk with hk;omega⟩
end
section
open Go.RowKit
attribute [local go_sem] yq Tryz.eqGuard_if
theorem KnosM.put {w:World} {base g i:Nat} {V:Value} {ks:List Kno} {T:TypeId} {C:List Value} (h:KnosM w base V ks) (hr:Row w g T C) (hT:¬yz T) (hK:T≠27) (v:Value):KnosM (w.setCell ⟨g,i,none⟩ v) base V ks:=by
 obtain⟨Ks,k1,k2⟩:=h;exact⟨Ks,ownsRow_setCell_other k1 (fun e=>hr.ne_own k1 hK _ e rfl) _,k2.steady (Steady.setCell (a:=⟨g,i,none⟩) (C:=C.toArray) (e:=T) (fr:=(0,0)) hr (Nat.zero_le _) hT)⟩
end
section
open Go.RowKit
def zf0 (ks:List Kno) (i:Nat):Kno:=ks.getD i []
theorem zwk {ks:List Kno} {i:Nat} (h:i<ks.length):zf0 ks i=ks[i]:=by unfold zf0;rw[List.getD_eq_getElem?_getD,List.getElem?_eq_getElem h];rfl
structure KnS (w:World) (a:Option Addr) (n cap:Nat) (ks:List Kno):Prop where
 len:ks.length=n
 room:n≤cap
 most:cap≤9223372036854775807
 cells:0<n→∃b o,a=some ⟨b,o,none⟩∧∀i,i<n→∃x m c,w.cell? ⟨b,o+i,none⟩=some (.slice x m c)∧Frags w x m c (zf0 ks i)
theorem KnS.below {w w':World} {a:Option Addr} {n cap:Nat} {ks:List Kno} (h:KnS w a n cap ks) (hb:Below w.heap.size w w'):KnS w' a n cap ks:=
 ⟨h.len,h.room,h.most,fun hn=>by
  obtain⟨b,o,e,hc⟩:=h.cells hn
  exact⟨b,o,e,fun i hi=>by
   obtain⟨x,m,c,h1,h2⟩:=hc i hi;exact⟨x,m,c,(hb.cell (zd h1)).trans h1,h2.below hb⟩⟩⟩
theorem KnosM.read {w:World} {base:Nat} {V:Value} {ks:List Kno} (h:KnosM w base V ks):∃a cap,V=.slice a ks.length cap∧KnS w a ks.length cap ks:=by
 obtain⟨Ks,h1,h2⟩:=h;have hlen:=h2.len;rcases h1.2 with ⟨rfl,h0⟩ | ⟨g,cap,cur,rfl,hg,hh,hnc,hcm,_⟩
 · exact⟨none,0,by rw[h0],by omega,by omega,by omega,fun h=>by omega⟩
 · refine⟨_,_,rfl,rfl,hnc,by unfold maxLen at hcm;omega,fun hn=>⟨g,0,rfl,fun i hi=>?_⟩⟩;obtain⟨K,e1,e2⟩:=h2.at hi;obtain⟨x,c,rfl,hf⟩:=e2.frags;have hc:=h1.cells (g:=g) rfl i _ e1;rw[qi] at hc;exact⟨x,_,c,hc,by rw[zwk hi];exact hf⟩
theorem KnS.take {w:World} {a:Option Addr} {n cap:Nat} {ks:List Kno} (h:KnS w a n cap ks) {m:Nat} (hm:m≤n):KnS w a m cap (ks.take m):=
 ⟨by rw[List.length_take,h.len];omega,by have:=h.room;omega,h.most,fun hn=>by
  obtain⟨b,o,e,hc⟩:=h.cells (by omega)
  exact⟨b,o,e,fun i hi=>by
   obtain⟨x,k,c,h1,h2⟩:=hc i (by omega);exact⟨x,k,c,h1,by unfold zf0;rw[List.getD_eq_getElem?_getD,List.getElem?_take_of_lt hi];exact h2⟩⟩⟩
theorem DcR.hdUp {w:World} {d:Nat} {L:za} {s:Dc} {vp:Option Addr} {y:Value} (h:DcR w d L s vp y):DcR (w.setCell ⟨d,6,none⟩ (.int .i64 ((s.hd+1:Nat):Int))) d L { s with hd:=s.hd+1 } vp y:=Row.set h 6 _
set_option maxRecDepth 20000 in
theorem zwl {w:World} {d c:Nat} {L:za} {s:Dc} {vp:Option Addr} {y:Value} (h:DcR w d L s vp y) (hc:c<256) (hs:s.st=0) (hh:s.hd<5) (ht:1≤s.tk) (hk:s.tk≤1000000000000000):
 Calls Tryz.prog 115 #[.pointer (some ⟨d,0,none⟩),.int .u8 (c:Int)] w (DcQ w d L (jt s c) vp y):=by
 have HR:=hid (fun W (hb:Below w.heap.size w W)=>Row.later h hb);have Hd:=hid (Row.lt h);have hk1:IntKind.i64.wrap ((s.tk:Int) - 1)=((s.tk - 1:Nat):Int):=by rw[IntKind.wrap_i64];omega
 have hh1:IntKind.i64.wrap ((s.hd:Int)+1)=((s.hd+1:Nat):Int):=by rw[IntKind.wrap_i64];omega
 have hm0:s.hd<4→∀w1:World,(w1.alloc (.cells #[.int .u8 75,.int .u8 78,.int .u8 87,.int .u8 76] 139)).cell? ⟨w1.heap.size,s.hd,none⟩=some (.int .u8 ((nth qw s.hd:Nat):Int)):=by
  intro h4 w1;have hx:=heap_alloc_new w1 (.cells #[.int .u8 75,.int .u8 78,.int .u8 87,.int .u8 76] 139);generalize w1.alloc (.cells #[.int .u8 75,.int .u8 78,.int .u8 87,.int .u8 76] 139)=w2 at*;rcases(by omega:s.hd=0∨s.hd=1∨s.hd=2∨s.hd=3) with e | e | e | e <;> rw[e] <;> simp only[World.cell?,hx] <;> rfl
 have h4m:s.hd=4→nth qw s.hd=1:=fun e=>by rw[e];rfl
 have Hst:=hid hs;clear h;obtain⟨m,hm⟩:∃m,m=nth qw s.hd:=⟨_,rfl⟩;rw[←hm] at hm0 h4m;have Hm:=hid hm;have Hm0:=hid hm0;have H4m:=hid h4m;clear hm hm0 h4m hs;go_enter Tryz.func115,Tryz.ntmps115;go_wp2_with fail;refine(zju _).mono ?_;rintro e w1 ⟨rfl,hb1⟩;go_upto_region 1 with fail
 have hal:=(Below.refl w1.heap.size w1).alloc (Nat.le_refl _) (.cells #[.int .u8 75,.int .u8 78,.int .u8 87,.int .u8 76] 139);have hb2:=hb1.trans (hal.mono hb1.size);have h2:=HR.out _ hb2;have Hg2:=hid (ym (y7 w (some d)) hb2);have Hmc:=hid (fun h=>Hm0.out h w1);generalize hB:w1.heap.size=B at*;clear hb1 hal hb2;generalize w1.alloc (.cells #[.int .u8 75,.int .u8 78,.int .u8 87,.int .u8 76] 139)=w2 at*;clear hB;have H2:=hid h2;have c6:=Row.cell h2 6 rfl;have c19:=Row.cell h2 19 rfl;clear h2;by_cases h4:s.hd<4
 · have d4:decide ((s.hd:Int)<4)=true:=by rw[decide_eq_true_iff];omega
   have d4':((s.hd:Int) == 4)=false:=by rw[beq_eq_false_iff_ne];omega
   have h0:(0:Int)≤(s.hd:Int):=by omega
   have h04:(s.hd:Int)<4:=by omega
   have cm:=Hmc.out h4;by_cases hcm:c=m
   · have dc:((c:Int) != (m:Int))=false:=by rw[bne_eq_false_iff_eq];omega
     have HN:=hid (show jt s c={ s with hd:=s.hd+1 } from by unfold jt;rw[if_neg (fun h=>h (hcm.trans Hm.out)),if_neg (by omega)]);have HU:=hid (DcR.hdUp H2.out);have u6:=HU.out.cell 6 rfl;have u5:=HU.out.cell 5 rfl;have f6:=H2.out.fz 6;have d5:(((s.hd+1:Nat):Int) == 5)=false:=by rw[beq_eq_false_iff_ne];omega
     clear hcm h4;go_wp2_with fail;go_end0
     exact⟨rfl,zg Hg2.out (zm w2 d 6 _),by rw[HN.out];exact HU.out⟩
   · have dc:((c:Int) != (m:Int))=true:=by rw[bne_iff_ne];omega
     have HN:=hid (show jt s c={ (s.bad 12 (s.tk - 1)) with hd:=s.hd+1 } from by unfold jt;rw[if_pos (fun h=>hcm (h.trans Hm.out.symm)),if_neg (by omega)];rfl);clear hcm h4;go_wp2_with fail;refine(zb9 H2.out 12 (s.tk - 1)).mono ?_;rintro e w3 ⟨rfl,hg3,h3⟩;have HU:=hid (DcR.hdUp h3);have u6:=HU.out.cell 6 rfl;have u5:=HU.out.cell 5 rfl;have f6:=Row.fz h3 6;have v6:w3.cell? ⟨d,6,none⟩=some (.int .i64 (s.hd:Int)):=Row.cell h3 6 rfl;have u6:(w3.setCell ⟨d,6,none⟩ (.int .i64 ((s.hd+1:Nat):Int))).cell? ⟨d,6,none⟩=some (.int .i64 ((s.hd+1:Nat):Int)):=HU.out.cell 6 rfl;have Hg3:=hid (zg Hg2.out hg3);have d5:(((s.hd+1:Nat):Int) == 5)=false:=by rw[beq_eq_false_iff_ne];omega
     clear h3 hg3;go_wp2_with fail;go_end0
     exact⟨rfl,zg Hg3.out (zm w3 d 6 _),by rw[HN.out];exact HU.out⟩
 · have e4:s.hd=4:=by omega
   have k6:w2.cell? ⟨d,6,none⟩=some (.int .i64 4):=by rw[e4] at c6;exact c6
   have hm1:=H4m.out e4;clear c6 hh1;by_cases hcm:c=1
   · have dc:((c:Int) != 1)=false:=by rw[bne_eq_false_iff_eq];omega
     have HN:=hid (show jt s c=({ s with hd:=5,st:=1 }:Dc).next from by unfold jt;rw[if_neg (fun h=>h (by rw[←Hm.out,hm1,hcm])),if_pos e4,e4]);have HU:=hid (show DcR (w2.setCell ⟨d,6,none⟩ (.int .i64 5)) d L { s with hd:=5 } vp y from Row.set H2.out 6 _);have u6:(w2.setCell ⟨d,6,none⟩ (.int .i64 5)).cell? ⟨d,6,none⟩=some (.int .i64 5):=HU.out.cell 6 rfl;have u5:=HU.out.cell 5 rfl;rw[show (({ s with hd:=5 }:Dc).st)=0 from Hst.out] at u5;have f6:=H2.out.fz 6;have f5:=HU.out.fz 5;have HW:=hid (show DcR ((w2.setCell ⟨d,6,none⟩ (.int .i64 5)).setCell ⟨d,5,none⟩ (.int .i64 1)) d L { s with hd:=5,st:=1 } vp y from Row.set HU.out 5 _);have HX:=hid (zfy HW.out);clear hcm h4 e4 hm1;go_wp2_with fail;refine HX.out.mono ?_;rintro e w3 ⟨rfl,hg3,h3⟩;have Hg3:=hid hg3;have H3:=hid h3;clear h3 hg3;go_wp2_with fail;go_end0
     exact⟨rfl,zg (zg Hg2.out (zm w2 d 6 _)) (zg (zm _ d 5 _) Hg3.out),by rw[HN.out];exact H3.out⟩
   · have dc:((c:Int) != 1)=true:=by rw[bne_iff_ne];omega
     have HN:=hid (show jt s c={ (s.bad 13 (s.tk - 1)) with hd:=5 } from by unfold jt;rw[if_pos (fun h=>hcm (by rw[h,←Hm.out,hm1])),if_pos e4,e4];rfl);have He:=hid e4;clear hcm h4 e4 hm1;go_wp2_with fail;refine(zb9 H2.out 13 (s.tk - 1)).mono ?_;rintro e w3 ⟨rfl,hg3,h3⟩;have HU:=hid (show DcR (w3.setCell ⟨d,6,none⟩ (.int .i64 5)) d L { (s.bad 13 (s.tk - 1)) with hd:=5 } vp y from Row.set h3 6 _);have u6:(w3.setCell ⟨d,6,none⟩ (.int .i64 5)).cell? ⟨d,6,none⟩=some (.int .i64 5):=HU.out.cell 6 rfl;have u5:(w3.setCell ⟨d,6,none⟩ (.int .i64 5)).cell? ⟨d,5,none⟩=some (.int .i64 4):=HU.out.cell 5 rfl;have f6:=Row.fz h3 6;have v6:w3.cell? ⟨d,6,none⟩=some (.int .i64 4):=by rw[show (4:Int)=((s.hd:Nat):Int) from by rw[He.out];rfl];exact Row.cell h3 6 rfl
     have Hg3:=hid (zg Hg2.out hg3);clear h3 hg3;go_wp2_with fail;go_end0
     exact⟨rfl,zg Hg3.out (zm w3 d 6 _),by rw[HN.out];exact HU.out⟩
theorem zn6 {w:World} {d c:Nat} {L:za} {s:Dc} {vp:Option Addr} {y:Value} (h:DcR w d L s vp y) (hc:c<256) (hns:s.ns=0) (hx:s.nx<18446744073709551616) (hn:s.nn<10):
 Calls Tryz.prog 91 #[.pointer (some ⟨d,7,none⟩),.int .u8 (c:Int)] w fun e w'=>e=.returned (.int .i64 (zn s.nn c:Nat))∧w.grownBy w' (some d)∧DcR w' d L (s.more c) vp y:=by
 have c9:=Row.cell h 9 rfl;rw[hns] at c9;refine(zp1 w d 7 s.nx s.nn c (Row.cell h 7 rfl) (Row.cell h 8 rfl) c9 (Row.fz h 7) (Row.fz h 8) (Row.fz h 9) hx hc hn).mono ?_;rintro e w' ⟨rfl,rfl⟩;exact⟨rfl,ym (zg (zg (zm w d 8 _) (zm _ d 7 _)) (zm _ d 9 _)) (Below.refl _ _).drew,((Row.set h 8 _).set 7 _).set 9 _⟩
theorem zn7 {w:World} {d:Nat} {L:za} {s:Dc} {vp:Option Addr} {y:Value} (h:DcR w d L s vp y) (hns:s.ns=1):
 Calls Tryz.prog 92 #[.pointer (some ⟨d,7,none⟩)] w fun e w'=>e=.returned (.int .u64 (s.nx:Nat))∧w=w':=by
 have c9:=Row.cell h 9 rfl;rw[hns] at c9;exact zp2 w d 7 s.nx (Row.cell h 7 rfl) c9
def zbn (T:TypeId):Prop:=yz T∨T=27
theorem KnosM.steady {w w':World} {base:Nat} {V:Value} {ks:List Kno} (h:KnosM w base V ks) (hs:Steady 0 zbn w w'):KnosM w' base V ks:=by
 obtain⟨Ks,h1,h2⟩:=h;exact⟨Ks,zav h1 hs (.inr rfl),h2.steady (hs.weak fun T hT=>.inl hT)⟩
theorem zwm {w w':World} {g:Nat} {T:TypeId} {C:List Value} (hR:Row w g T C) (hT:¬zbn T) (hg:w.grownBy w' (some g)):Steady 0 zbn w w':=
 ⟨hg.size,fun k hk hp=>hg.block k hk fun e=>by
  injection e with e;subst e;rcases hp with h' | ⟨C',T',fr,hT',h'⟩
  · omega
  · rw[show w.heap[k]?=_ from hR] at h';injection h' with h';injection h' with _ h' _;subst h';exact hT hT'⟩
theorem DcR.knt {w w':World} {d:Nat} {L:za} {s:Dc} {vp:Option Addr} {y:Value} (h:DcR w d L s vp y) (hg:w.grownBy w' (some d)):Steady 0 zbn w w':=zwm h (by unfold zbn yz;decide) hg
structure Lo (B d:Nat) (w w':World):Prop where
 os:w'.os=w.os
 tape:w'.tape=w.tape
 output:w'.output=w.output
 size:w.heap.size≤w'.heap.size
 block:∀k,k<B→k≠d→w'.heap[k]?=w.heap[k]?
theorem Lo.refl (B d:Nat) (w:World):Lo B d w w:=⟨rfl,rfl,rfl,Nat.le_refl _,fun _ _ _=>rfl⟩
theorem Lo.trans {B d:Nat} {a b c:World} (h:Lo B d a b) (k:Lo B d b c):Lo B d a c:=
 ⟨k.os.trans h.os,k.tape.trans h.tape,k.output.trans h.output,Nat.le_trans h.size k.size,fun i hi hd=>(k.block i hi hd).trans (h.block i hi hd)⟩
theorem Lo.mono {B B' d:Nat} {w w':World} (h:Lo B d w w') (hb:B'≤B):Lo B' d w w':=⟨h.os,h.tape,h.output,h.size,fun k hk hd=>h.block k (Nat.lt_of_lt_of_le hk hb) hd⟩
theorem Lo.of_grown {B d:Nat} {w w':World} (h:w.grownBy w' (some d)) (hb:B≤w.heap.size):Lo B d w w':=
 ⟨h.os,h.tape,h.output,h.size,fun k hk hd=>h.block k (Nat.lt_of_lt_of_le hk hb) fun e=>by injection e with e;exact hd e⟩
theorem Lo.of_own {B d base sz n:Nat} {w w':World} {e:TypeId} {v:Value} {xs:List Value} (ho:w.ownsRow base e sz v n xs) (h:w.grownBy w' v.ownBlock) (hb:B≤base) (hb2:B≤w.heap.size):Lo B d w w':=
 ⟨h.os,h.tape,h.output,h.size,fun k hk _=>h.block k (Nat.lt_of_lt_of_le hk hb2) fun e=>by have:=(ho.lt k e.symm).1;omega⟩
theorem Lo.of_below {B d n:Nat} {w w':World} (h:Below n w w') (hb:B≤n):Lo B d w w':=⟨h.os,h.tape,h.output,h.size,fun k hk _=>h.block k (Nat.lt_of_lt_of_le hk hb)⟩
theorem Lo.toBelow {B d n:Nat} {w w':World} (h:Lo B d w w') (hb:n≤B) (hd:n≤d):Below n w w':=⟨h.os,h.tape,h.output,h.size,fun k hk=>h.block k (Nat.lt_of_lt_of_le hk hb) (by omega)⟩
theorem Row.lo {B d g:Nat} {w w':World} {T:TypeId} {C:List Value} (h:Row w g T C) (hl:Lo B d w w') (hg:g<B) (hd:g≠d):Row w' g T C:=h.same (hl.block g hg hd)
theorem Steady.lo {P:TypeId→Prop} {wb w w':World} {base d:Nat} {T:TypeId} {C:List Value} (hs:Steady 0 P wb w) (hl:Lo base d w w') (hz:wb.heap.size≤base) (hr:Row w d T C) (hT:¬P T):Steady 0 P wb w':=
 ⟨Nat.le_trans hs.size hl.size,fun k hk hp=>(hl.block k (Nat.lt_of_lt_of_le hk hz) fun e=>by
  subst e;rcases hp with h' | ⟨C',T',fr,hT',h'⟩
  · omega
  · have h2:=(hs.row k hk (.inr ⟨C',T',fr,hT',h'⟩)).trans h';rw[show w.heap[k]?=_ from hr] at h2;injection h2 with h2;injection h2 with _ h2 _;subst h2;exact hT hT').trans (hs.row k hk hp)⟩
def zn8 (w:World) (B F:Nat) (L:za) (s:Dc) (vp:Option Addr) (y:Value):Prop:=
 ∃base R wb,(s.st=2→B≤base∧wb.heap.size≤base)∧base≤w.heap.size∧vp=some ⟨R,0,none⟩∧WkR w base R L s.ws∧KnosM wb F y s.out∧Steady 0 zbn wb w
structure MidM (w:World) (B F d:Nat) (L:za) (t:List Nat) (s:Dc) (ks:List Kno) (es:List Nat) (vp:Option Addr) (y:Value):Prop where
 row:DcR w d L s vp y
 si:SI L t s ks es
 lt:∀c∈t,c<256
 kn:KnosM w F y s.out
 rd:s.st=2∨s.st=3→zn8 w B F L s vp y
def DecM (w:World) (B d:Nat) (L:za) (t:List Nat) (s:Dc) (ks:List Kno) (es:List Nat):Prop:=
 ∃vp y,DcR w d L s vp y∧SI L t s ks es∧(∀c∈t,c<256)∧s.vc≤20∧(s.st=2∨s.st=3→∃base R,(s.st=2→B≤base)∧base≤w.heap.size∧vp=some ⟨R,0,none⟩∧WkR w base R L s.ws)
theorem DecM.later {w w':World} {B d:Nat} {L:za} {t:List Nat} {s:Dc} {ks:List Kno} {es:List Nat} (h:DecM w B d L t s ks es) (hb:Below w.heap.size w w'):DecM w' B d L t s ks es:=by
 obtain⟨vp,y,h1,h2,h3,hv,h4⟩:=h;exact⟨vp,y,Row.later h1 hb,h2,h3,hv,fun e=>by obtain⟨b,R,k1,k2,k3,k4⟩:=h4 e;exact⟨b,R,k1,Nat.le_trans k2 hb.size,k3,k4.later hb⟩⟩
theorem DecM.mono {w:World} {B B' d:Nat} {L:za} {t:List Nat} {s:Dc} {ks:List Kno} {es:List Nat} (h:DecM w B d L t s ks es) (hb:B'≤B):DecM w B' d L t s ks es:=by
 obtain⟨vp,y,h1,h2,h3,hv,h4⟩:=h;exact⟨vp,y,h1,h2,h3,hv,fun e=>by obtain⟨b,R,k1,k2⟩:=h4 e;exact⟨b,R,fun e2=>Nat.le_trans hb (k1 e2),k2⟩⟩
theorem SI.fresh {L:za} {t:List Nat} {s:Dc} {ks:List Kno} {es:List Nat} (h:SI L t s ks es) (o:List Kno) (n:Nat):SI L t { s with out:=o,sn:=n } ks es:=
 ⟨h.tk,h.st,h.way,h.fin,h.buf,h.ll,h.bad,h.ver,fun e=>⟨(h.s0 e).hd,(h.s0 e).len,(h.s0 e).eq⟩,fun e=>⟨(h.s1 e).ns,(h.s1 e).hb,(h.s1 e).frm,(h.s1 e).num⟩,
  fun e=>by obtain⟨n,s0,k⟩:=h.s2 e;exact⟨n,s0,k.ns,k.head,k.len,k.left,k.frm,k.num,k.pl,k.rd,k.eq⟩,
  fun e=>by obtain⟨n,s0,k⟩:=h.s3 e;exact⟨n,s0,k.head,k.dec,k.len,k.hv,k.ll,k.last,k.pl,k.tag,k.l64⟩⟩
theorem zwn (w:World) (P:TypeId→Prop):Steady 0 P { w with heap:= #[] } w:=⟨Nat.zero_le _,fun k hk=>absurd hk (Nat.not_lt_zero k)⟩
theorem MidM.dec {w:World} {B F d:Nat} {L:za} {t:List Nat} {s:Dc} {ks:List Kno} {es:List Nat} {vp:Option Addr} {y:Value} (h:MidM w B F d L t s ks es vp y) (hv:s.vc≤20):DecM w B d L t s ks es:=
 ⟨vp,y,h.row,h.si,h.lt,hv,fun e=>by obtain⟨b,R,wb,h1,h2,h3,h4,-⟩:=h.rd e;exact⟨b,R,fun e2=>(h1 e2).1,h2,h3,h4⟩⟩
theorem Byts.lo {w w':World} {a:Option Addr} {n cap B d:Nat} {l:List Nat} (h:Byts w a n cap l) (hl:Lo B d w w') (hb:∀b o k,a=some ⟨b,o,k⟩→b<w.heap.size→b<B∧b≠d):Byts w' a n cap l:=by
 obtain⟨h1,h2,h3,h4,h5,h6⟩:=h;refine⟨h1,h2,h3,h4,h5,fun hn=>?_⟩;obtain⟨b,o,rfl,hc⟩:=h6 hn;obtain⟨k1,k2⟩:=hb b o none rfl (zd (hc 0 hn));exact⟨b,o,rfl,fun i hi=>(World.cell?_of_block (w:=w) (a:=⟨b,o+i,none⟩) (hl.block b k1 k2)).trans (hc i hi)⟩
end
section
open Go.RowKit
attribute [local go_sem] yq
theorem zwo {w:World} {d:Nat} {L:za} {s:Dc} {vp:Option Addr} {y:Value} (h:DcR w d L s vp y):Calls Tryz.prog 157 #[.pointer (some ⟨d,13,none⟩)] w (DcQ w d L { s with pl:=[] } vp y):=by
 refine(zpv ⟨d,13,none⟩ (sum s.pl) w (Row.cell h 13 rfl) (Row.fz h 13)).mono ?_;rintro e w' ⟨rfl,rfl⟩;have e0:((sum []:Nat):Int)=0:=by rw[←zpx];rfl
 have hw:w.setCell ⟨d,13,none⟩ (.int .u32 0)=w.setCell ⟨d,13,none⟩ (.int .u32 ((sum []:Nat):Int)):=by rw[e0]
 rw[hw];exact⟨rfl,zm w d 13 _,Row.set h 13 _⟩
def zwp (w:World) (d:Nat) (L:za) (s:Dc) (y:Value) (e:Ending) (w':World):Prop:=
 e=.returned (.tuple #[])∧w.grownBy w' (some d)∧∃vp,DcR w' d L s vp y∧(s.st=2→s.ws=ws0∧∃base R,w.heap.size≤base∧base≤w'.heap.size∧vp=some ⟨R,0,none⟩∧WkR w' base R L ws0)
set_option maxRecDepth 20000 in
theorem zwq {w:World} {d c:Nat} {L:za} {s:Dc} {vp:Option Addr} {y:Value} (h:DcR w d L s vp y) (hc:c<256) (hL:LimsI L) (hst:s.st=1) (hns:s.ns=0) (hx:s.nx<18446744073709551616) (hn:s.nn<10) (hk:s.sn≤1000000000000000):
 Calls Tryz.prog 116 #[.pointer (some ⟨d,0,none⟩),.int .u8 (c:Int)] w (zwp w d L (jq L s c) y):=by
 have hP:=zn6 h hc hns hx hn;have Hd:=hid (Row.lt h);have hs1:IntKind.i64.wrap ((s.sn:Int)+1)=((s.sn+1:Nat):Int):=by rw[IntKind.wrap_i64];omega
 obtain⟨⟨lf0,lf1⟩,-⟩:=hL;rcases zcx s.nn c with hr | hr | hr
 · rw[hr] at hP;have HP:=hid hP;have HN:=hid (show jq L s c=s.more c from by unfold jq;rw[hr];rfl);have Hst:=hid hst;clear hP h hst;go_enter Tryz.func116,Tryz.ntmps116;go_wp2_with fail;refine HP.out.mono ?_;rintro e w1 ⟨rfl,hg1,h1⟩;have Hg1:=hid hg1;have H1:=hid h1;clear hg1 h1;go_wp2_with fail;go_end0
   exact⟨rfl,Hg1.out,vp,by rw[HN.out];exact H1.out,fun e=>by rw[HN.out] at e;have:=e.symm.trans Hst.out;cases this⟩
 · rw[hr] at hP;have HP:=hid hP;obtain⟨x,hxx⟩:∃x,z7 s.nx s.nn c=x:=⟨_,rfl⟩;have hxl:x<18446744073709551616:=hxx ▸ zcw s.nn c hx;obtain⟨m,hm⟩:=Int.eq_ofNat_of_zero_le (show 0≤max L.1 0 by omega);have hm1:m≤9223372036854775807:=by omega
   have hmw:IntKind.u64.wrap (m:Int)=(m:Int):=by rw[IntKind.wrap_u64];omega
   have hns1:({ s.more c with sn:=s.sn+1 }:Dc).ns=1:=hr;have Hns1:=hid hns1;have HN0:=hid (show jq L s c=if max L.1 0<(x:Int) then ({ s.more c with sn:=s.sn+1 }:Dc).bad 7 s.frm else ({ s.more c with sn:=s.sn+1,st:=2,left:=x,ws:=ws0,pl:=[] }:Dc).next.void from by unfold jq;rw[hr,←hxx];rfl);have Hxx:=hid hxx;clear hP h hst hxx hns1 hr;go_enter Tryz.func116,Tryz.ntmps116;go_wp2_with fail;refine HP.out.mono ?_;rintro e w1 ⟨rfl,hg1,h1⟩;have k24:w1.cell? ⟨d,24,none⟩=some (.int .i64 (s.sn:Nat)):=Row.cell h1 24 rfl;have f24:=Row.fz h1 24;have H2:=hid (show DcR (w1.setCell ⟨d,24,none⟩ (.int .i64 ((s.sn+1:Nat):Int))) d L { s.more c with sn:=s.sn+1 } vp y from Row.set h1 24 _);have Hg2:=hid (zg hg1 (zm w1 d 24 (.int .i64 ((s.sn+1:Nat):Int))));clear hg1 h1;go_wp2_with fail;refine(zn7 H2.out Hns1.out).mono ?_;rintro e w2 ⟨rfl,rfl⟩;have hv:(({ s.more c with sn:=s.sn+1 }:Dc).nx:Int)=(x:Int):=by rw[←Hxx.out];rfl
   rw[hv];generalize w1.setCell ⟨d,24,none⟩ (.int .i64 ((s.sn+1:Nat):Int))=w2 at*;have q0:=H2.out.cell 0 rfl;have q1:=H2.out.cell 1 rfl;have q2:=H2.out.cell 2 rfl;have q3:=H2.out.cell 3 rfl;have q4:=H2.out.cell 4 rfl;have q10:=H2.out.cell 10 rfl;clear k24 f24 hv;by_cases hlt:m<x
   · have hd:decide ((m:Int)<(x:Int))=true:=by rw[decide_eq_true_iff];omega
     have hd2:decide (m<x)=true:=decide_eq_true hlt;have HN:=hid (show jq L s c=({ s.more c with sn:=s.sn+1 }:Dc).bad 7 s.frm from by rw[HN0.out,if_pos (by omega)]);have hq10:w2.cell? ⟨d,10,none⟩=some (.int .i64 (s.frm:Nat)):=q10;have HF:=hid (zb9 H2.out 7 s.frm);clear q10 hlt;go_wp2_with fail;refine HF.out.mono ?_;rintro e w3 ⟨rfl,hg3,h3⟩;have Hg3:=hid (zg Hg2.out hg3);have H3:=hid h3;clear hg3 h3 q0 q1 q2 q3 q4 hq10;go_wp2_with fail;go_end0
     exact⟨rfl,Hg3.out,vp,by rw[HN.out];exact H3.out,fun e=>by rw[HN.out] at e;cases e⟩
   · have hd:decide ((m:Int)<(x:Int))=false:=by rw[decide_eq_false_iff_not];omega
     have hd2:decide (m<x)=false:=decide_eq_false hlt;have hxw:IntKind.i64.wrap (x:Int)=(x:Int):=by rw[IntKind.wrap_i64];omega
     have HN:=hid (show jq L s c=({ s.more c with sn:=s.sn+1,st:=2,left:=x,ws:=ws0,pl:=[] }:Dc).next.void from by rw[HN0.out,if_neg (by omega)]);have HB:=hid (fun W=>zvv L W);unfold lmV at HB;clear q10 hlt;go_wp2_with fail;refine(HB.out _).mono ?_;rintro e w3 ⟨R,rfl,hR,hb3⟩;obtain⟨base,hbase⟩:∃base,w2.heap.size=base:=⟨_,rfl⟩;rw[hbase] at hR;have H3:=hid (Row.later H2.out hb3);have Hg3:=hid (ym Hg2.out hb3);have Hb:=hid (show w.heap.size≤base∧base≤w3.heap.size from⟨hbase ▸ Hg2.out.size,hbase ▸ hb3.size⟩);have HRd:=hid hR;clear hR hb3 q0 q1 q2 q3 q4 hbase;have k5:=H3.out.cell 5 rfl;have f5:=H3.out.fz 5;have r5:DcR (w3.setCell ⟨d,5,none⟩ (.int .i64 2)) d L { s.more c with sn:=s.sn+1,st:=2 } vp y:=Row.set H3.out 5 _;have k11:=Row.cell r5 11 rfl;have f11:=Row.fz r5 11;have r11:DcR ((w3.setCell ⟨d,5,none⟩ (.int .i64 2)).setCell ⟨d,11,none⟩ (.int .i64 (x:Nat))) d L { s.more c with sn:=s.sn+1,st:=2,left:=x } vp y:=Row.set r5 11 _;have k12:=Row.cell r11 12 rfl;have f12:=Row.fz r11 12;have r12:DcR (((w3.setCell ⟨d,5,none⟩ (.int .i64 2)).setCell ⟨d,11,none⟩ (.int .i64 (x:Nat))).setCell ⟨d,12,none⟩ (.pointer (some ⟨R,0,none⟩))) d L { s.more c with sn:=s.sn+1,st:=2,left:=x,ws:=ws0 } (some ⟨R,0,none⟩) y:=Row.set r11 12 _;have Hgk:=hid (zg (zg (zm w3 d 5 (.int .i64 2)) (zm _ d 11 (.int .i64 (x:Nat)))) (zm _ d 12 (.pointer (some ⟨R,0,none⟩))));have H12:=hid r12;clear r5 r11 r12;go_upto_region 9 with fail
     generalize (((w3.setCell ⟨d,5,none⟩ (.int .i64 2)).setCell ⟨d,11,none⟩ (.int .i64 (x:Nat))).setCell ⟨d,12,none⟩ (.pointer (some ⟨R,0,none⟩)))=w4 at*;have HK4:=hid (DcR.keep H3.out Hgk.out);have Hg4:=hid (zg Hg3.out Hgk.out);clear k5 f5 k11 f11 k12 f12;go_wp2_with fail;refine(zwo H12.out).mono ?_;rintro e w5 ⟨rfl,hg5,h5⟩;have HK5:=hid (HK4.out.trans (DcR.keep H12.out hg5));have Hg5:=hid (zg Hg4.out hg5);have H5:=hid h5;clear hg5 h5;go_wp2_with fail;refine(zfy H5.out).mono ?_;rintro e w6 ⟨rfl,hg6,h6⟩;have HK6:=hid (HK5.out.trans (DcR.keep H5.out hg6));have Hg6:=hid (zg Hg5.out hg6);have H6:=hid h6;clear hg6 h6;go_wp2_with fail;refine(zdf H6.out).mono ?_;rintro e w7 ⟨rfl,hg7,h7⟩;have HK7:=hid (HK6.out.trans (DcR.keep H6.out hg7));have Hg7:=hid (zg Hg6.out hg7);have H7:=hid (show DcR w7 d L (jq L s c) (some ⟨R,0,none⟩) y from by rw[HN.out];exact h7);have Hz:=hid (show w3.heap.size≤w7.heap.size from HK7.out.st.size);clear hg7 h7;go_wp2_with fail;go_end0
     refine⟨rfl,Hg7.out,_,H7.out,fun _=>⟨?_,base,R,Hb.out.1,Nat.le_trans Hb.out.2 Hz.out,rfl,HRd.out.keepR HK7.out⟩⟩;rw[HN.out];unfold Dc.void;split <;> rfl
 · rw[hr] at hP;have HP:=hid hP;have HN:=hid (show jq L s c=(s.more c).bad 6 s.frm from by unfold jq;rw[hr];rfl);clear hP h hst;go_enter Tryz.func116,Tryz.ntmps116;go_wp2_with fail;refine HP.out.mono ?_;rintro e w1 ⟨rfl,hg1,h1⟩;have Hg1:=hid hg1;have HF:=hid (zb9 h1 6 s.frm);have k10:w1.cell? ⟨d,10,none⟩=some (.int .i64 (s.frm:Nat)):=Row.cell h1 10 rfl;clear hg1 h1;go_wp2_with fail;refine HF.out.mono ?_;rintro e w2 ⟨rfl,hg2,h2⟩;have Hg2:=hid (zg Hg1.out hg2);have H2:=hid h2;clear hg2 h2 k10;go_wp2_with fail;go_end0
   exact⟨rfl,Hg2.out,vp,by rw[HN.out];exact H2.out,fun e=>by rw[HN.out] at e;cases e⟩
end
