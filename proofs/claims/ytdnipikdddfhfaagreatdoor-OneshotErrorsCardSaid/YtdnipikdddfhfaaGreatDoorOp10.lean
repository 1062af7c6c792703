/- Part 10. -/
import Derived.Test.YtdnipikdddfhfaaGreatDoorOp09
set_option linter.unusedVariables false
set_option maxHeartbeats 16000000
namespace Go.Proofs.YtdnipikdddfhfaaGreatDoor
open Lib (hid)
section
open Go.RowKit
theorem zhf (x:Nat) (w:World):Calls Tryz.prog 261 #[.int .i64 x] w fun e w'=>e=.returned (.bool false)∧w'=w:=by
 go_enter Tryz.func261,Tryz.ntmps261;go_wp2;go_ret;exact⟨by simp,rfl⟩
theorem zr9 (x y:Nat) (w:World):Calls Tryz.prog 232 #[.int .i64 x,.int .i64 y] w fun e w'=>e=.returned (.int .i64 (if x<y then -1 else if y<x then 1 else 0))∧w'=w:=by
 by_cases h1:x<y
 · rw[if_pos h1];go_enter Tryz.func232,Tryz.ntmps232;go_wp2_with (go_at_call 261;refine(zhf _ _).mono ?_;rintro e w1 ⟨rfl,rfl⟩);go_ret;exact⟨rfl,rfl⟩
 · rw[if_neg h1];by_cases h2:y<x
   · rw[if_pos h2];go_enter Tryz.func232,Tryz.ntmps232;go_wp2_with (go_at_call 261;refine(zhf _ _).mono ?_;rintro e w1 ⟨rfl,rfl⟩);go_ret;exact⟨rfl,rfl⟩
   · rw[if_neg h2];go_enter Tryz.func232,Tryz.ntmps232;go_wp2_with (go_at_call 261;refine(zhf _ _).mono ?_;rintro e w1 ⟨rfl,rfl⟩);go_ret;exact⟨rfl,rfl⟩
set_option maxRecDepth 20000 in
theorem zsa (a d:Option Addr) (N c M c':Nat) (P R:List Nat) (w:World) (hP:U64s w a N c P) (hR:U64s w d M c' R):
 Calls Tryz.prog 190 #[.slice a N c,.slice d M c'] w fun e w'=>e=.returned (.int .i64 (qn P R))∧Below w.heap.size w w':=by
 have HP:=hid hP;have HR:=hid hR;have HN:=hid hP.len;have HM:=hid hR.len;have hNm:N≤9223372036854775807:=Nat.le_trans hP.room hP.most;have hMm:M≤9223372036854775807:=Nat.le_trans hR.room hR.most;clear hP hR;obtain⟨K,hK⟩:∃K:Nat,K=min N M:=⟨_,rfl⟩;have hK1:K≤N:=by omega
 have hK2:K≤M:=by omega
 have hK3:K=N∨K=M:=by omega
 have hmin:min (N:Int) (M:Int)=(K:Int):=by omega
 have HKc:=hid hK3;clear hK hK3;go_enter Tryz.func190,Tryz.ntmps190;go_wp2;go_loopw [5,11] (fun _ i wr=>∃k:Nat,k≤K∧i=.int .i64 k∧Below w.heap.size w wr∧Hid (qn P R=qn (P.drop k) (R.drop k))) (fun _ i _=>K - (intOf i).toNat)
 case atStart=>exact⟨0,by omega,rfl,Below.refl _ _,rfl⟩
 case round=>
  obtain⟨k,hk,rfl,hb,ht⟩:=hrel;have Hb:=hid hb;clear hb;have h0:(0:Int)≤k:=by omega
  by_cases hkK:k<K
  · have h1:k<N:=by omega
    have h2:k<M:=by omega
    have hst:=zj3 (p:=P) (q:=R) (k:=k) (by rw[HN.out];exact h1) (by rw[HM.out];exact h2);have Hst:=hid (ht.out.trans hst);obtain⟨b1,o1,rfl,hc1⟩:=(HP.out.below Hb.out).cells (by omega);obtain⟨b2,o2,rfl,hc2⟩:=(HR.out.below Hb.out).cells (by omega);have q1:=hc1 k h1;have q2:=hc2 k h2;clear hst hc1 hc2;generalize nth P k=x at*;generalize nth R k=y at*;have h01:(k:Int)<(N:Int):=by omega
    have h02:(k:Int)<(M:Int):=by omega
    have h03:(k:Int)<(K:Int):=by omega
    have hcP:=HP.out.room;have hcR:=HR.out.room;by_cases hxy:x=y
    · subst hxy;rw[if_neg (Nat.lt_irrefl _),if_neg (Nat.lt_irrefl _)] at Hst;go_wp2;go_quiet (fail);go_wp2;go_roundw
      case rel=>exact⟨k+1,by omega,by go_num,by first | exact Hb.out | exact zq Hb.out _,Hst.out⟩
      case measure=>simp[intOf];omega
    · have hne:((x:Int) != (y:Int))=true:=by rw[bne_iff_ne];omega
      have Hci:=hid (show Lib.compareInt (x:Int) (y:Int)=qn P R from by
       rw[Hst.out];unfold Lib.compareInt;by_cases hlt:x<y
       · rw[if_pos (by omega),if_pos hlt]
       · rw[if_neg (by omega),if_neg hlt,if_pos (by omega),if_pos (by omega)])
      have hC:=hid (fun w'=>zif x y w');rw[Hci.out] at hC;generalize hzz:qn P R=z at*;have Hzz:=hid hzz;clear hzz;have hq1:=hid (fun w' (h:Below wr.heap.size wr w')=>(h.cell (p:=⟨b1,o1+k,none⟩) (ze q1)).trans q1);have hq2:=hid (fun w' (h:Below wr.heap.size wr w')=>(h.cell (p:=⟨b2,o2+k,none⟩) (ze q2)).trans q2);clear hxy;go_wp2;go_quiet (fail);go_wp2_with fail;refine vv (by kernel_rfl) (by kernel_rfl) ?_
      repeat (go_big_quiet_step ((intro hw;first
       | rfl
       | (have q3:=hq1.out _ (by first | exact hw | exact Below.trans (zq (Below.refl _ _) _) hw)
          have q4:=hq2.out _ (by first | exact hw | exact Below.trans (zq (Below.refl _ _) _) hw)
          first
          | (go_at_call 131;refine(hC.out _).mono ?_;rintro e w4 ⟨rfl,rfl⟩;exact⟨rfl,hw⟩)
          | (go_simp
             first | rfl | exact⟨rfl,hw⟩ | (trace_state;fail))))))
      refine wpQuiet_nil ?_;intro w3 hb3;go_wp2;go_ret;exact⟨by rw[Hzz.out];rfl,Hb.out.trans ((by first | exact hb3 | exact Below.trans (zq (Below.refl _ _) _) hb3:Below wr.heap.size wr w3).mono Hb.out.size)⟩
  · obtain rfl:k=K:=by omega
    have Hz:=hid (ht.out.trans (zg1 (by rw[HN.out];omega) (by rw[HM.out];omega) (by rw[HN.out,HM.out];exact HKc.out)));rw[HN.out,HM.out] at Hz;have hK:=hid (fun w'=>zr9 N M w');obtain⟨zz,hzz⟩:∃zz:Int,zz=if N<M then -1 else if M<N then 1 else 0:=⟨_,rfl⟩;rw[←hzz] at hK Hz;clear hzz;go_wp2_with fail;refine(hK.out _).mono ?_;rintro e w1 ⟨rfl,rfl⟩;go_wp2;go_ret;exact⟨by rw[Hz.out];rfl,Hb.out⟩
theorem zkr (v:Vec):v.length≤(zi v).length:=by
 unfold zi;rw[List.length_cons]
 induction v with
 | nil=>exact Nat.zero_le _
 | cons e v ih=>rw[List.flatMap_cons,List.length_append,List.length_cons,zd3];omega
theorem zks (a d:Option Addr) (n c n' c':Nat) (v u:Vec) (w:World) (hE:Ents w a n c v) (hF:Ents w d n' c' u) (fv:(zi v).length≤1000000000000) (fu:(zi u).length≤1000000000000):
 Calls Tryz.prog 148 #[.slice a n c,.slice d n' c'] w fun x w'=>x=.returned (.int .i64 (jm v u))∧Below w.heap.size w w':=by
 have hC:=hid (zki a n c v w hE (by rw[←hE.len];exact Nat.le_trans (zkr v) fv) fv);have hD:=hid (fun w' (h:Below w.heap.size w w')=>zki d n' c' u w' (hF.below h) (by rw[←hF.len];exact Nat.le_trans (zkr u) fu) fu);have Hpl:=hid (zfh hE.lt fv);have Hql:=hid (zfh hF.lt fu);have Hcv:=hid (show jm v u=qn (zi v) (zi u) from rfl);clear hE hF fv fu;generalize zi v=P at*;generalize zi u=R at*;go_enter Tryz.func148,Tryz.ntmps148;go_wp2_with fail;refine hC.out.mono ?_;rintro e w1 ⟨⟨y,rfl,ho1⟩,hb1⟩;have Hb1:=hid hb1;obtain⟨aP,cP,rfl,hU1⟩:=ze5 ho1 Hpl.out;have HU1:=hid hU1;clear hb1 ho1 hU1;go_wp2_with fail;refine(hD.out _ Hb1.out).mono ?_;rintro e w2 ⟨⟨y,rfl,ho2⟩,hb2⟩;have Hb2:=hid (Hb1.out.trans (hb2.mono Hb1.out.size));obtain⟨aR,cR,rfl,hU2⟩:=ze5 ho2 Hql.out;have HUp:=hid (HU1.out.below hb2);have HUr:=hid hU2;clear hb2 ho2 hU2;go_wp2_with fail;refine(zsa _ _ _ _ _ _ P R _ HUp.out HUr.out).mono ?_;rintro e w3 ⟨rfl,hb3⟩;have Hb3:=hid (Hb2.out.trans (hb3.mono Hb2.out.size));clear hb3;go_wp2;go_ret;exact⟨by rw[Hcv.out];rfl,Hb3.out⟩
end
section
abbrev RR (α:Type):=Except (Nat×Nat) (α×Nat)
def thn {α β:Type} (a:RR α) (f:α→Nat→RR β):RR β:=match a with | .error e=>.error e | .ok y=>f y.1 y.2
theorem zt {α β:Type} (x:α) (q:Nat) (f:α→Nat→RR β):thn (.ok (x,q)) f=f x q:=rfl
theorem zag {α β:Type} (e:Nat×Nat) (f:α→Nat→RR β):thn (.error e:RR α) f=.error e:=rfl
theorem jf {α β γ:Type} (a:RR α) (f:α→Nat→RR β) (g:β→Nat→RR γ):thn (thn a f) g=thn a fun x q=>thn (f x q) g:=by cases a <;> rfl
theorem vb {α β:Type} {a:RR α} {f g:α→Nat→RR β} (h:∀x q,f x q=g x q):thn a f=thn a g:=by rw[show f=g from funext fun x=>funext fun q=>h x q]
abbrev zl:=Nat→Except Nat (Nat×Nat)
def nmP (T:zl) (p:Nat):RR Nat:=match T p with | .error c=>.error (c,p) | .ok y=>.ok y
def zm (x:Nat) (lim:Int) (rest:Nat):Nat:=if lim<(x:Int)∧x≠0 then 7 else if rest<x then 5 else 0
def zv (T:zl) (E:Nat) (lim:Int) (p:Nat):RR Nat:=thn (nmP T p) fun x q=>if zm x lim (E - q)=0 then .ok (x,q) else .error (zm x lim (E - q),p)
def loP (prev:Option Nat) (ap d:Nat):Option Nat:=match prev with | none=>some d | some h=>if h+1+ap+d<18446744073709551616 then some (h+1+ap+d) else none
def hiP (T:zl) (lo q:Nat):RR (Iv×Nat):=thn (nmP T q) fun y r=>if lo+y<18446744073709551616 then .ok (((lo,lo+y),q),r) else .error (8,q)
def ivP (T:zl) (prev:Option Nat) (ap p:Nat):RR (Iv×Nat):=thn (nmP T p) fun x q=>match loP prev ap x with | none=>.error (8,p) | some lo=>hiP T lo q
def zo (l:List Iv):Option Nat:=l.getLast?.map (·.2)
def ko {α:Type} (mx:Nat) (s:Iv×Nat) (q:Nat) (f:Iv→Nat→RR α):RR α:=if mx≤s.1.2 then .error (8,s.2) else f s.1 q
def y7 (T:zl) (mx:Nat):Nat→List Iv→Nat→RR (List Iv)
 | 0,acc,p=>.ok (acc,p)
 | n+1,acc,p=>thn (ivP T (zo acc) 1 p) fun s q=>ko mx s q fun s q=>y7 T mx n (acc++[s]) q
def jv (v:Vec) (x:Nat):Option Nat:=match v.getLast? with | none=>some x | some e=>if e.1+1+x<18446744073709551616 then some (e.1+1+x) else none
def zat (T:zl) (E:Nat) (lim:Int) (r mx p:Nat):RR Ent:=thn (zv T E lim p) fun n q=>thn (y7 T mx n [] q) fun h q=>.ok ((r,mx,h),q)
def zaj (T:zl) (E:Nat) (lim:Int) (r p:Nat):RR Ent:=thn (nmP T p) fun mx q=>zat T E lim r mx q
def qo (T:zl) (E:Nat) (lim:Int) (v:Vec) (p:Nat):RR Ent:=thn (nmP T p) fun x q=>match jv v x with | none=>.error (8,p) | some r=>zaj T E lim r q
def yx (T:zl) (E:Nat) (lim:Int):Nat→Vec→Nat→RR Vec
 | 0,v,p=>.ok (v,p)
 | n+1,v,p=>thn (qo T E lim v p) fun e q=>yx T E lim n (v++[e]) q
def qz (T:zl) (E:Nat) (le lh:Int) (p:Nat):RR Vec:=thn (zv T E le p) fun n q=>if n=0 then .error (9,p) else yx T E lh n [] q
def ja (vs:List Vec) (v:Vec):Bool:=match vs.getLast? with | none=>false | some u=>decide (0≤jm u v)
def y8 (T:zl) (E:Nat) (le lh:Int):Nat→List Vec→Nat→RR (List Vec)
 | 0,vs,p=>.ok (vs,p)
 | n+1,vs,p=>thn (qz T E le lh p) fun v q=>if ja vs v=true then .error (3,p) else y8 T E le lh n (vs++[v]) q
def vx (l:List Iv) (lo:Nat):Bool:=match zo l with | none=>false | some h=>decide (lo=h+1)
def k7 {α:Type} (T:zl) (N:Nat) (tch:Bool) (ix:List Nat) (q:Nat) (f:Nat→Nat→RR α):RR α:=
 thn (nmP T q) fun x r=>if N≤x then .error (8,q) else if tch=true∧ix.getLast?=some x then .error (10,q) else f x r
def yz (T:zl) (N:Nat):Nat→List Iv→List Nat→Nat→RR (List Iv×List Nat)
 | 0,l,ix,p=>.ok ((l,ix),p)
 | m+1,l,ix,p=>thn (ivP T (zo l) 0 p) fun s q=>k7 T N (vx l s.1.1) ix q fun x r=>yz T N m (l++[s.1]) (ix++[x]) r
def zw (vs:List Vec) (l:List Iv) (ix:List Nat):Kno:=zfl vs l (ix.map fun (n:Nat)=>(n:Int))
def jp (E:Nat) (c:Kno) (p:Nat):RR Kno:=if (∃f∈c,f.1=[]) then .error (10,p) else if p<E then .error (11,p) else .ok (c,p)
def vy (T:zl) (E:Nat) (lim:Int) (vs:List Vec) (p:Nat):RR Kno:=thn (zv T E lim p) fun m q=>thn (yz T vs.length m [] [] q) fun s q=>jp E (zw vs s.1 s.2) q
def zx (T:zl) (E:Nat) (L:Int×Int×Int×Int×Int) (p:Nat):RR Kno:=thn (zv T E L.2.1 p) fun n q=>thn (y8 T E L.2.2.1 L.2.2.2.1 n [] q) fun vs q=>vy T E L.2.2.2.2 vs q
structure PS where
 tag:Nat
 v:Vec
 rep:Nat
 mx:Nat
 h:List Iv
 ents:Nat
 hls:Nat
 lo:Nat
def ps0:PS:=⟨0,[],0,0,[],0,0,0⟩
def ql (s:PS) (hls:Nat) (h:List Iv):PS:=
 if 0<hls then { s with tag:=4,h:=h,hls:=hls - 1 }
 else if 1<s.ents then { s with tag:=1,v:=s.v++[(s.rep,s.mx,h)],h:=[],ents:=s.ents - 1,hls:=0 }
 else { s with tag:=6,v:=s.v++[(s.rep,s.mx,h)],h:=[],ents:=s.ents - 1,hls:=0 }
def yb (le lh:Int) (s:PS) (x rest:Nat):Except Nat PS:=
 match s.tag with
 | 0=>if zm x le rest≠0 then .error (zm x le rest) else if x=0 then .error 9 else .ok { s with tag:=1,v:=[],ents:=x }
 | 1=>match jv s.v x with | none=>.error 8 | some r=>.ok { s with tag:=2,rep:=r }
 | 2=>.ok { s with tag:=3,mx:=x }
 | 3=>if zm x lh rest≠0 then .error (zm x lh rest) else .ok (ql s x [])
 | 4=>match loP (zo s.h) 1 x with | none=>.error 8 | some lo=>.ok { s with tag:=5,lo:=lo }
 | _=>if s.lo+x<18446744073709551616∧s.lo+x<s.mx then .ok (ql s s.hls (s.h++[(s.lo,s.lo+x)])) else .error 8
def zbv (T:zl) (E:Nat) (le lh:Int) (s:PS) (p:Nat):RR Vec:=
 match s.tag with
 | 0=>qz T E le lh p
 | 1=>yx T E lh s.ents s.v p
 | 2=>thn (zaj T E lh s.rep p) fun e q=>yx T E lh (s.ents - 1) (s.v++[e]) q
 | 3=>thn (zat T E lh s.rep s.mx p) fun e q=>yx T E lh (s.ents - 1) (s.v++[e]) q
 | 4=>thn (ivP T (zo s.h) 1 p) fun i q=>ko s.mx i q fun i q=>thn (y7 T s.mx s.hls (s.h++[i]) q) fun h q=>yx T E lh (s.ents - 1) (s.v++[(s.rep,s.mx,h)]) q
 | 5=>thn (hiP T s.lo p) fun i q=>ko s.mx i q fun i q=>thn (y7 T s.mx s.hls (s.h++[i]) q) fun h q=>yx T E lh (s.ents - 1) (s.v++[(s.rep,s.mx,h)]) q
 | _=>.ok (s.v,p)
theorem zkt (T:zl) (E:Nat) (le lh:Int) (s:PS) (hls:Nat) (h:List Iv) (q:Nat):
 zbv T E le lh (ql s hls h) q=thn (y7 T s.mx hls h q) fun h q=>yx T E lh (s.ents - 1) (s.v++[(s.rep,s.mx,h)]) q:=by
 unfold ql
 cases hls with
 | succ n=>
  rw[if_pos (Nat.succ_pos _)];simp only[zbv];rw[y7,jf];refine vb fun s' q'=>?_
  simp only[ko,Nat.add_sub_cancel];split
  · rw[zag]
  · rfl
 | zero=>
  rw[if_neg (by omega),y7,zt];by_cases h1:1<s.ents
  · rw[if_pos h1];rfl
  · rw[if_neg h1];show (.ok (s.v++[(s.rep,s.mx,h)],q):RR Vec)=_;rw[show s.ents - 1=0 by omega]
    rfl
theorem zsb (T:zl) (E:Nat) (le lh:Int) (s:PS) (p:Nat) (hs:s.tag<6) (he:1≤s.tag→0<s.ents):
 zbv T E le lh s p=thn (nmP T p) fun x q=>match yb le lh s x (E - q) with | .error c=>.error (c,p) | .ok s'=>zbv T E le lh s' q:=by
 obtain⟨tag,v,rep,mx,h,ents,hls,lo⟩:=s;simp only at hs he;rcases(by omega:tag=0∨tag=1∨tag=2∨tag=3∨tag=4∨tag=5) with rfl | rfl | rfl | rfl | rfl | rfl
 · show qz T E le lh p=_;unfold qz zv;rw[jf];refine vb fun x q=>?_
   simp only[yb];by_cases hc:zm x le (E - q)=0
   · rw[if_pos hc,if_neg (fun h=>h hc),zt];by_cases hx:x=0
     · rw[if_pos hx,if_pos hx]
     · rw[if_neg hx,if_neg hx];rfl
   · rw[if_neg hc,if_pos hc,zag]
 · show yx T E lh ents v p=_;obtain⟨n,rfl⟩:∃n,ents=n+1:=⟨ents - 1,by have:=he (Nat.le_refl _);omega⟩;rw[yx,qo,jf];refine vb fun x q=>?_
   simp only[yb]
   cases jv v x with
   | none=>rfl
   | some r=>rfl
 · show thn (zaj T E lh rep p) (fun e q=>yx T E lh (ents - 1) (v++[e]) q)=_;unfold zaj;rw[jf]
   rfl
 · show thn (zat T E lh rep mx p) (fun e q=>yx T E lh (ents - 1) (v++[e]) q)=_;unfold zat zv;rw[jf,jf];refine vb fun x q=>?_
   simp only[yb];by_cases hc:zm x lh (E - q)=0
   · rw[if_pos hc,if_neg (fun h=>h hc),zt];simp only;rw[zkt,jf]
     rfl
   · rw[if_neg hc,if_pos hc,zag]
 · show thn (ivP T (zo h) 1 p) (fun i q=>ko mx i q fun i q=>thn (y7 T mx hls (h++[i]) q) fun h q=>yx T E lh (ents - 1) (v++[(rep,mx,h)]) q)=_;unfold ivP;rw[jf];refine vb fun x q=>?_
   simp only[yb]
   cases loP (zo h) 1 x with
   | none=>rfl
   | some lo=>rfl
 · show thn (hiP T lo p) (fun i q=>ko mx i q fun i q=>thn (y7 T mx hls (h++[i]) q) fun h q=>yx T E lh (ents - 1) (v++[(rep,mx,h)]) q)=_;unfold hiP;rw[jf];refine vb fun x q=>?_
   simp only[yb];by_cases h1:lo+x<18446744073709551616
   · rw[if_pos h1,zt];simp only[ko];by_cases h2:mx≤lo+x
     · rw[if_pos h2,if_neg (by omega)]
     · rw[if_neg h2,if_pos ⟨h1,by omega⟩];simp only;rw[zkt]
   · rw[if_neg h1,if_neg (by omega),zag]
theorem zd7 {le lh:Int} {s s':PS} {x rest:Nat} (hs:s.tag<6) (he:1≤s.tag→0<s.ents) (h:yb le lh s x rest=.ok s'):s'.tag≤6∧(1≤s'.tag→s'.tag<6→0<s'.ents)∧1≤s'.tag:=by
 obtain⟨tag,v,rep,mx,hh,ents,hls,lo⟩:=s;simp only at hs he
 have nx:∀(t:PS) (k:Nat) (l:List Iv),0<t.ents→(ql t k l).tag≤6∧(1≤(ql t k l).tag→(ql t k l).tag<6→0<(ql t k l).ents)∧1≤(ql t k l).tag:=by
  intro t k l ht;unfold ql;split
  · exact⟨by simp,fun _ _=>ht,by simp⟩
  · split
    · exact⟨by simp,fun _ _=>by simp only;omega,by simp⟩
    · exact⟨by simp,fun _ h=>absurd h (by simp),by simp⟩
 rcases(by omega:tag=0∨tag=1∨tag=2∨tag=3∨tag=4∨tag=5) with rfl | rfl | rfl | rfl | rfl | rfl <;> simp only[yb] at h
 · split at h
   · cases h
   · split at h
     · cases h
     · cases h;exact⟨by simp,fun _ _=>by simp only;omega,by simp⟩
 · cases hr:jv v x with
   | none=>rw[hr] at h;cases h
   | some r=>rw[hr] at h;cases h;exact⟨by simp,fun _ _=>he (by simp),by simp⟩
 · cases h;exact⟨by simp,fun _ _=>he (by simp),by simp⟩
 · split at h
   · cases h
   · cases h;exact nx _ _ _ (he (by simp))
 · cases hr:loP (zo hh) 1 x with
   | none=>rw[hr] at h;cases h
   | some r=>rw[hr] at h;cases h;exact⟨by simp,fun _ _=>he (by simp),by simp⟩
 · split at h
   · cases h;exact nx _ _ _ (he (by simp))
   · cases h
end
section
open Go.RowKit
def za (l:List Nat) (E:Nat):zl:=fun p=>match zh ((l.take E).drop p) 0 0 with | (1,x,j)=>.ok (x,p+j) | (2,_,_)=>.error 6 | _=>.error (if E≤l.length then 5 else 0)
theorem zku (w:World) (x y:Value) (T:TypeId) (w':World) (h:Below (w.alloc (.cells #[x,y] T)).heap.size (w.alloc (.cells #[x,y] T)) w'):
 w'.cell? ⟨w.heap.size,0,none⟩=some x∧w'.cell? ⟨w.heap.size,1,none⟩=some y:=by
 have hrow:(w.alloc (.cells #[x,y] T)).heap[w.heap.size]?=some (.cells #[x,y] T):=zaa rfl
 exact⟨(h.cell (p:=⟨w.heap.size,0,none⟩) (by simp)).trans (kf (i:=0) hrow rfl),
  (h.cell (p:=⟨w.heap.size,1,none⟩) (by simp)).trans (kf (i:=1) hrow rfl)⟩
set_option maxRecDepth 20000 in
theorem zsc (a:Option Addr) (n cap:Nat) (k:Kno) (w:World) (hE:Frags w a n cap k) (hD:Door w):
 Calls Tryz.prog 85 #[.slice a n cap] w fun x w'=>x=.returned (zn (vq (ckF k)))∧Below w.heap.size w w':=by
 have HE:=hid hE;have HD:=hid hD;have Hl:=hid hE.len;have hm:n≤9223372036854775807:=Nat.le_trans hE.room hE.most;have Hck:=hid (show ckF k=ju (zfd k) k.length from rfl);clear hE hD;go_enter Tryz.func85,Tryz.ntmps85;go_wp2;go_loopw [3,4,5,6,9] (fun _ _ _ _ i wr=>∃d:Nat,d≤n∧i=.int .i64 d∧Below w.heap.size w wr∧Hid (∀j,j<d→zfd k j=none)) (fun _ _ _ _ i _=>n - (intOf i).toNat)
 case atStart=>exact⟨0,by omega,rfl,Below.refl _ _,fun j h=>by omega⟩
 case round=>
  obtain⟨d,hd,rfl,hb,ht⟩:=hrel;have Hb:=hid hb;clear hb;by_cases hdn:d<n
  · have hdk:d<k.length:=by rw[Hl.out];exact hdn
    have HEr:=hid (HE.out.below Hb.out);obtain⟨bb,oo,rfl⟩:=HEr.out.some (by omega);obtain⟨x,m,c,y,m',c',hq⟩:=HEr.out.fix hdn;have Hat:=hid (show zfd k d=match ck (zd k d).1 with | some x=>some (x.1,d) | none=>match ckV (zd k d).2 with | some x=>some (x.1,d) | none=>none from rfl);have hal:Below wr.heap.size wr (wr.alloc (.cells #[.slice x m c,.slice y m' c'] 97)):=(Below.refl _ _).alloc (Nat.le_refl _) _;have HX:=hid (zku wr (.slice x m c) (.slice y m' c') 97);have HalW:=hid (Hb.out.trans (hal.mono Hb.out.size));have Hal:=hid hal;have hC:=hid (zj0 x m c (zd k d).1 _ (hq _ hal).2.1 (HD.out.below (Nat.le_refl _) HalW.out))
    have hV:=hid (fun w' (h:Below (wr.alloc (.cells #[.slice x m c,.slice y m' c'] 97)).heap.size (wr.alloc (.cells #[.slice x m c,.slice y m' c'] 97)) w')=>
     zrz y m' c' (zd k d).2 w' (hq _ (hal.trans (h.mono hal.size))).2.2.2 (HD.out.below (Nat.le_refl _) (HalW.out.trans (h.mono HalW.out.size))))
    have h0:(0:Int)≤d:=by omega
    have h04:(d:Int)<(n:Int):=by omega
    obtain⟨q1,-,q2,-⟩:=hq _ (Below.refl _ _);obtain⟨x0,x1⟩:=HX.out _ (Below.refl _ _);clear hq hal;generalize zd k d=f at*
    cases h:ck f.1 with
    | some z=>
     have hc0:=zjo h;obtain⟨cd,ci⟩:=z;rw[h] at Hat hC;simp only[vq,zn] at Hat hC;simp only at hc0;have Hr:=hid (zbr hdk ht.out Hat.out);clear h hV;go_wp2_with fail;refine hC.out.mono ?_;rintro z w1 ⟨rfl,hb1⟩;have Hb1:=hid (HalW.out.trans (hb1.mono HalW.out.size));clear hb1;go_wp2_with fail;refine(zaz (some ((cd:Int),some (ci:Int))) _ (HD.out.below (Nat.le_refl _) Hb1.out)).mono ?_;rintro z w2 ⟨rfl,hb2⟩;have Hb2:=hid (Hb1.out.trans (hb2.mono Hb1.out.size));clear hb2;simp only[kw];go_wp2_with fail;refine(je cd d _).mono ?_;rintro z w3 ⟨rfl,rfl⟩;go_wp2;go_ret
     exact⟨by rw[Hck.out,Hr.out];show _=Ending.returned (zn (some ((cd:Int),some (d:Int))));rw[←zhd d hc0];rfl,Hb2.out⟩
    | none=>
     rw[h] at Hat hC;simp only[vq,zn] at Hat hC;clear h;go_wp2_with fail;refine hC.out.mono ?_;rintro z w1 ⟨rfl,hb1⟩;have Hb1:=hid hb1;have Hw1:=hid (HalW.out.trans (hb1.mono HalW.out.size));clear hb1 q1 q2 x0 x1;obtain⟨x0,x1⟩:=HX.out _ Hb1.out
     cases h:ckV f.2 with
     | some z=>
      have hc0:=zqg h;obtain⟨cd,ci⟩:=z;rw[h] at Hat hV;simp only[vq,zn] at Hat hV;simp only at hc0;have Hr:=hid (zbr hdk ht.out Hat.out);clear h;go_wp2_with fail;refine(hV.out _ Hb1.out).mono ?_;rintro z w2 ⟨rfl,hb2⟩;have Hb2:=hid (Hw1.out.trans (hb2.mono Hw1.out.size));clear hb2;go_wp2_with fail;refine(zaz (some ((cd:Int),some (ci:Int))) _ (HD.out.below (Nat.le_refl _) Hb2.out)).mono ?_;rintro z w3 ⟨rfl,hb3⟩;have Hb3:=hid (Hb2.out.trans (hb3.mono Hb2.out.size));clear hb3;simp only[kw];go_wp2_with fail;refine(je cd d _).mono ?_;rintro z w4 ⟨rfl,rfl⟩;go_wp2;go_ret
      exact⟨by rw[Hck.out,Hr.out];show _=Ending.returned (zn (some ((cd:Int),some (d:Int))));rw[←zhd d hc0];rfl,Hb3.out⟩
     | none=>
      rw[h] at Hat hV;simp only[vq,zn] at Hat hV;have Hr:=hid (zen ht.out Hat.out);clear h;go_wp2_with fail;refine(hV.out _ Hb1.out).mono ?_;rintro z w2 ⟨rfl,hb2⟩;have Hb2:=hid (Hw1.out.trans (hb2.mono Hw1.out.size));clear hb2;go_wp2;go_roundw
      case rel=>exact⟨d+1,by omega,by go_num,Hb2.out,Hr.out⟩
      case measure=>simp[intOf];omega
  · obtain rfl:d=n:=by omega
    have Hr:=hid (zfc (n:=k.length) (fun j hj=>ht.out j (by rw[←Hl.out];exact hj)));go_wp2;go_ret;exact⟨by rw[Hck.out,Hr.out];rfl,Hb.out⟩
theorem zsd {k:Kno} (hc:CanK k):zae (zch k) 0:=by
 obtain⟨-,-,h3⟩:=za2 k k.length (Nat.le_refl _);have hp:=List.pairwise_iff_getElem.1 (zkl hc);intro i hi;rw[zhb] at hi;rw[zfm hi];refine⟨(hc.items _ (j7 (h3 _ (List.getElem_mem hi)).1)).1.ok _ (h3 _ (List.getElem_mem hi)).2,fun h0=>?_⟩;have:=(hp (i - 1) i (by omega) hi (by omega)).1;rw[zfm (by omega)];omega
theorem zkv {k:Kno} {i:Nat} (h:i<(zf k).length):nth ((zf k).map (·.2)) i<k.length:=by
 obtain⟨-,-,h3⟩:=za2 k k.length (Nat.le_refl _);have e:nth ((zf k).map (·.2)) i=(zf k)[i].2:=by simp[nth,h]
 rw[e];exact(h3 _ (List.getElem_mem h)).1
theorem zhg (l:List Iv) (x:List Nat):∀d,(ki l x d).length=1+3*d
 | 0=>rfl
 | d+1=>by rw[ki,List.length_append,zhg l x d];simp;omega
structure EncK (c:Kno):Prop where
 can:CanK c
 lt:LtK c
 vec:∀f∈c,VecFits f.2
 sum:za1 c≤1000
 len:c.length≤1000
theorem zkw {v:Vec} (h:LtV v) (hh:∀e∈v,e.2.2.length≤500) (hl:v.length≤300):∀d,d≤v.length→∀y∈ky v d,y<18446744073709551616
 | 0,_,y,hy=>by
   simp[ky] at hy;subst hy
   omega
 | d+1,hd,y,hy=>by
   rw[ky] at hy;rcases List.mem_append.1 hy with hy | hy
   · exact zkw h hh hl d (by omega) y hy
   · exact zr8 h hh hd y hy
theorem zse {c:Kno} (hK:EncK c):∀x∈jl c,x<18446744073709551616:=by
 have hv:∀d,d≤c.length→∀x∈vr c d,x<18446744073709551616:=by
  intro d
  induction d with
  | zero=>
   intro _ x hx;simp[vr] at hx;subst hx;have:=hK.len
   omega
  | succ d ih=>
   intro hd x hx;rw[vr] at hx;rcases List.mem_append.1 hx with hx | hx
   · exact ih (by omega) x hx
   · have hm:=j7 (show d<c.length from hd);have hf:=hK.vec _ hm;exact zkw (hK.lt _ hm).vec hf.holes hf.len _ (Nat.le_refl _) x hx
 have hs:∀d,d≤(zf c).length→∀x∈ki ((zf c).map (·.1)) ((zf c).map (·.2)) d,x<18446744073709551616:=by
  obtain⟨-,-,h3⟩:=za2 c c.length (Nat.le_refl _)
  have hll:(zf c).length≤1000:=by
   have:=zg8 c c.length (Nat.le_refl _);rw[List.take_length] at this;have:=hK.sum;unfold zf;omega
  intro d
  induction d with
  | zero=>
   intro _ x hx;simp[ki] at hx;subst hx
   omega
  | succ d ih=>
   intro hd x hx;rw[ki] at hx
   have hlt:∀i,i<(zf c).length→(zc ((zf c).map (·.1)) i).1<18446744073709551616∧(zc ((zf c).map (·.1)) i).2<18446744073709551616:=fun i hi=>by
    have e:zc ((zf c).map (·.1)) i=(zf c)[i].1:=zfm hi;rw[e];exact(hK.lt _ (j7 (h3 _ (List.getElem_mem hi)).1)).items _ (h3 _ (List.getElem_mem hi)).2
   rcases List.mem_append.1 hx with hx | hx
   · exact ih (by omega) x hx
   · simp at hx;have h1:=hlt d (by omega);rcases hx with rfl | rfl | rfl
     · unfold jo;split
       · exact(hlt 0 (by omega)).1
       · omega
     · omega
     · have:=zkv (k:=c) (i:=d) (by omega);have:=hK.len;omega
 intro x hx;unfold jl at hx;rcases List.mem_append.1 hx with hx | hx
 · exact hv _ (Nat.le_refl _) x hx
 · exact hs _ (Nat.le_refl _) x hx
end
section
open Go.RowKit Go.Maps
theorem zsf (x:Value) (w:World):Calls Tryz.prog 277 #[x,.int .i64 0,.int .i64 1] w fun e w'=>e=.returned (.tuple #[])∧w'=w:=by
 go_enter Tryz.func277,Tryz.ntmps277;go_wp2;go_loopw [6,7] (fun i _ wr=>i=.int .i64 1∧wr=w) (fun _ _ _=>0)
 case atStart=>exact⟨rfl,rfl⟩
 case round=>
  obtain⟨rfl,rfl⟩:=hrel;go_wp2;go_end0
  exact⟨rfl,rfl⟩
theorem zsg (x l:Value) (w:World):Calls Tryz.prog 267 #[x,.int .i64 0,.int .i64 1,l] w fun e w'=>e=.returned (.tuple #[])∧w'=w:=by
 go_enter Tryz.func267,Tryz.ntmps267;go_wp2;go_loopw [1,2,3,8,9,10,11,12,13,14,15,16,17,18] (fun a b _ _ _ _ _ _ _ _ _ _ _ _ wr=>a=.int .i64 0∧b=.int .i64 1∧wr=w) (fun _ _ _ _ _ _ _ _ _ _ _ _ _ _ _=>0)
 case atStart=>exact⟨rfl,rfl,rfl⟩
 case round=>
  obtain⟨rfl,rfl,rfl⟩:=hrel;go_wp2_with (go_at_call 277;refine(zsf _ _).mono ?_;rintro e w' ⟨rfl,rfl⟩);exact bodyPost_ret (results_none rfl _ _ _) rfl ⟨rfl,rfl⟩
theorem zsh (a:Option Addr) (c:Nat) (w:World):Calls Tryz.prog 248 #[.slice a 1 c] w fun e w'=>e=.returned (.tuple #[])∧w'=w:=by
 have Hl:=hid (fun w=>Tryz.bits_Len (1:Int) w (by omega) (by omega));have wr:IntKind.u64.wrap (1:Int)=1:=rfl;go_enter Tryz.func248,Tryz.ntmps248;go_wp2_with (first | (go_at_call 177;refine(Hl.out _).mono ?_;rintro e w' ⟨rfl,rfl⟩) | (go_at_call 267;refine(zsg _ _ _).mono ?_;rintro e w' ⟨rfl,rfl⟩));go_end0
 exact⟨rfl,rfl⟩
theorem zsi (t:Nat) (w:World):Calls Tryz.prog 211 #[.slice none 0 0,.int .u64 t] w fun e w'=>(∃a c,e=.returned (.slice a 0 c))∧Below w.heap.size w w':=by
 refine(zrq none 0 0 t [] w (zd2 w) (fun f hf=>by cases hf) (by omega)).mono ?_;rintro e w' ⟨⟨y,rfl,ho⟩,hb⟩;obtain⟨a,c,rfl⟩:=qv ho;exact⟨⟨a,c,rfl⟩,hb⟩
def zsj (D:DataW Value):Prop:=∀r:Nat,Maps.has D (.int .u64 (r:Int))=true↔r=0
set_option maxRecDepth 100000 in
theorem zsk (w:World):
 Calls Tryz.prog 210 #[.slice none 0 0] w fun e w'=>(∃y,e=.returned y∧w'.ownsRow w.heap.size 43 1 y 1 (z7 [0]))∧Below w.heap.size w w':=by
 have hmm:=@run_makeMap Tryz.prog;obtain⟨B,hBe⟩:∃B,B=w.heap.size:=⟨_,rfl⟩;have HBe:=hid hBe;have Hm0:=hid (show (w.alloc (.map #[] 0)).ownsMap Tryz.prog 43 rB B 0 (.map []) from by rw[hBe];exact World.ownsMap_made _ _ _ _);have Hb0:=hid (show Below B w (w.alloc (.map #[] 0)) from by rw[hBe];exact(Below.refl _ _).alloc (Nat.le_refl _) _);have hkz:keyOf Tryz.prog 43 (.int .u64 0)=some (.int .u64 0):=zqj (x:=0) (by omega);go_enter Tryz.func210,Tryz.ntmps210;go_wp2_with (first | (rw[←hBe];refine zqq _ rfl _ _ _ 340 rfl 43 4 zfe Tryz.underlying340 rB B 0 (.map []) rfl Hm0.out (by unfold maxLen;omega) _ _ _ rfl rfl hkz (.lit (.bool true)) [] rfl ?_;intro w1 ho1 hg1));have Hb1:=hid (Hb0.out.grown hg1 (by have:=Hm0.out.lt;omega) (fun k hk=>by cases hk;exact Nat.le_refl _));obtain⟨D,hD⟩:∃D,D=(DataW.map (H:=Value) []).put (.int .u64 0) (.lit (.bool true)):=⟨_,rfl⟩
 have HD:=hid (show zsj D from fun r=>by
  rw[hD,show Lit.int .u64 (0:Int)=Lit.int .u64 ((0:Nat):Int) from rfl];by_cases e:r=0
  · subst e;rw[has_put_same isMap_empty (show WideAt.IsKeyLit (.int .u64 ((0:Nat):Int)) from trivial)];simp
  · rw[has_put_other (zcf (r:=r) (x:=0) e)];simp[e,Maps.has])
 rw[←hD] at ho1;have Ho1:=hid ho1;clear ho1 hg1 hBe Hm0 Hb0 hD;go_wp2;rw[←HBe.out];go_loopw [5,7,8,9,19,26] (fun _ _ _ _ i _ wr=>i=.int .i64 0∧wr=w1) (fun _ _ _ _ _ _ _=>0)
 case atStart=>exact⟨rfl,rfl⟩
 case round=>
  obtain⟨rfl,rfl⟩:=hrel;go_wp2_with (at_range;refine wpList_range_own _ rfl _ _ rfl 43 4 zfe Tryz.underlying340 rB B _ D rfl Ho1.out ?_;intro w3 hrg3 hg3 hs3);go_frame
  obtain⟨R,hR⟩:∃R,R=wr.heap.size:=⟨_,rfl⟩;rw[←hR] at hrg3 ⊢;have hBR:B<R:=by rw[hR];exact Ho1.out.lt
  have Hb3:=hid (Hb1.out.grown hg3 (by omega) (fun k hk=>by cases hk));have Hrg3:=hid hrg3;clear hR hrg3 hg3 hs3 Ho1 Hb1;go_loopw [10,11,12] (fun _ _ _ wr=>∃(left:Lit→Bool) (cnt:Nat),Hid (wr.ranges Tryz.prog 43 rB B R _ D left cnt)∧Hid (Below B w wr)) (fun _ _ _ wr=>wr.rangeLeft B R)
  case atStart=>exact⟨_,_,Hrg3.out,Hb3.out⟩
  case round=>
   obtain⟨left,cnt,Hrg,Hb⟩:=hrel;have Hrg:=hid Hrg.out;go_wp2_with (at_next;refine zjs rfl _ rfl rB B R _ D left cnt rfl Hrg.out ?_ ?_)
   · intro hl0;have Hown:=hid Hrg.out.owns;clear hl0 Hrg Hb3 Hrg3;go_wp2_with (at_range;refine wpList_range_own _ rfl _ _ rfl 43 4 zfe Tryz.underlying340 rB B _ D rfl Hown.out ?_;intro w3 hrg3 hg3 hs3);go_frame
     obtain⟨R2,hR2⟩:∃R2,R2=wr.heap.size:=⟨_,rfl⟩;rw[←hR2] at hrg3 hs3 ⊢;have hBR2:B<R2:=by rw[hR2];exact Hown.out.lt
     have Hb3:=hid (Hb.out.grown hg3 (by omega) (fun k hk=>by cases hk));have Hrg3:=hid hrg3;have Hs3:=hid hs3;clear hR2 hrg3 hg3 hs3 Hown Hb;go_loopw [13,14] (fun y _ wr=>∃(left:Lit→Bool) (cnt:Nat) (L:List Nat),Hid (wr.ranges Tryz.prog 43 rB B R2 _ D left cnt)∧Hid (Coll D left L)∧Hid (wr.ownsRow (R2+1) 43 1 y L.length (z7 L))∧Hid (Below B w wr)∧R2+1≤wr.heap.size) (fun _ _ wr=>wr.rangeLeft B R2)
     case atStart=>exact⟨_,_,[],Hrg3.out,Coll.start D,World.ownsRow_nil _ _ _ _,Hb3.out,by rw[Hs3.out];exact Nat.le_refl _⟩
     case round=>
      obtain⟨left,cnt,L,Hrg,HC,Ho,Hb,hsw⟩:=hrel;have Hrg:=hid Hrg.out
      have Hlen:=hid (show L.length≤1 from by
       have hz:∀x∈L,x=0:=fun x hx=>(HD.out x).1 ((HC.out.mem x).1 hx).1
       have hn:=HC.out.nodup;rcases L with _ | ⟨x,_ | ⟨y,l⟩⟩
       · simp
       · simp
       · exfalso;rw[List.nodup_cons] at hn;exact hn.1 (by rw[hz x (by simp),←hz y (by simp)];simp))
      go_wp2_with (at_next;refine zjs rfl _ rfl rB B R2 _ D left cnt rfl Hrg.out ?_ ?_)
      · intro hl0;have h0:0∈L:=(HC.out.mem 0).2 ⟨(HD.out 0).2 rfl,hl0 _⟩
        obtain rfl:L=[0]:=by
         have:=Hlen.out;rcases L with _ | ⟨x,_ | ⟨y,l⟩⟩
         · cases h0
         · rw[List.mem_singleton] at h0;rw[←h0]
         · simp at this
        have Ho2:=hid Ho.out;obtain⟨ya,yc,rfl⟩:=qv Ho.out;clear h0 hl0 HC Hrg Ho Hlen;go_wp2_with fail;refine(zsh _ _ _).mono ?_;rintro e w5 ⟨rfl,rfl⟩;go_wp2;go_ret;exact⟨⟨_,rfl,by rw[←HBe.out];exact vw Ho2.out (by omega)⟩,by rw[←HBe.out];exact Hb.out⟩
      · intro x u w4 cnt4 hx hlx hhx hrg4 hlt4 hg4 hs4 hen;have HC4:=hid (HC.out.step hhx hlx);have Hb4:=hid (Hb.out.grown hg4 (by have:=Hrg.out.owns.lt;omega) (fun k hk=>by cases hk;omega));have Ho4:=hid (zaw (w':=w4) Ho.out (fun k hk1 hk2=>hg4.block k hk2 (by simp;omega)));have Hrg4:=hid hrg4;have Hlt4:=hid hlt4;have hs4':R2+1≤w4.heap.size:=by omega
        have hal:Below w4.heap.size w4 (w4.alloc (.cells #[.int .u64 x] 43)):=(Below.refl _ _).alloc (Nat.le_refl _) _;have Hal:=hid hal;clear hlx hhx hrg4 hlt4 hg4 hs4 hal;go_wp2_with (at_builtin;refine zqp rfl _ _ rfl rfl (R2+1) _ L.length L rfl (yf Ho4.out Hal.out) _ 1 1 [x] rfl (kx (qi _ _ _ (by simp)) rfl rfl) (by have:=Hlen.out;omega) (by simp;omega) ?_;intro v' w5 ho5 hg5);have hsz5:=hg5.size;simp only[World.size_alloc] at hsz5;have hvr:∀j,j≤R2→some j≠Value.ownBlock _:=fun j hj e=>by have:=(Ho4.out.lt j e.symm).1;omega
        have Hrg5:=hid ((Hrg4.out.kept (zgw Hal.out) (by simp) (by simp)).kept hg5 (hvr B (by omega)) (hvr R2 (Nat.le_refl _)));have Hb5:=hid ((Hb4.out.trans (Hal.out.mono (by omega))).grown hg5 (by simp;omega) (fun k hk=>by have:=(Ho4.out.lt k hk).1;omega));have Ho5:=hid ho5;clear ho5 hg5 hvr;go_roundw
        case rel=>exact⟨_,cnt4,L++[x],Hrg5.out,HC4.out,by rw[List.length_append];exact Ho5.out,Hb5.out,by omega⟩
        case measure=>rw[Hrg5.out.left_eq,Hrg.out.left_eq];exact Hlt4.out
   · intro x u w4 cnt4 hx hlx hhx hrg4 hlt4 hg4 hs4 hen;have Hb4:=hid (Hb.out.grown hg4 (by have:=Hrg.out.owns.lt;omega) (fun k hk=>by cases hk;omega));have Hrg4:=hid hrg4;have Hlt4:=hid hlt4;obtain rfl:=(HD.out x).1 hhx;clear hlx hhx hrg4 hlt4 hg4 hs4;go_wp2_with fail;refine(zpc 0 (by omega) _).mono ?_;rintro e w5 ⟨rfl,hb5⟩;have Hrg5:=hid (Hrg4.out.kept (zgw hb5) (by simp) (by simp));have Hb5:=hid (Hb4.out.trans (hb5.mono (by have:=Hrg4.out.owns.lt;omega)));clear hb5 hen;have hpz:zey 0=none:=rfl;rw[hpz];simp only[zex,Option.getD,Option.isSome];go_wp2;go_roundw
     case rel=>exact⟨_,cnt4,Hrg5.out,Hb5.out⟩
     case measure=>rw[Hrg5.out.left_eq,Hrg.out.left_eq];exact Hlt4.out
