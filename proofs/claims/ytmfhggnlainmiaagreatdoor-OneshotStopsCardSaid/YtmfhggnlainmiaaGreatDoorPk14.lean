/- Part 14. -/
import Derived.Test.YtmfhggnlainmiaaGreatDoorPk13
set_option linter.unusedVariables false
set_option maxHeartbeats 16000000
namespace Go.Proofs.YtmfhggnlainmiaaGreatDoor
open Lib (hid)
section
def itL (L:List Seg) (i:Nat):List Iv:=(L.filter fun p=>decide (p.2=i)).map (·.1)
def zb1 (vs:List Vec) (L:List Seg):Kno:=qj vs (yi L) (qn L)
theorem zfz (vs:List Vec) (L:List Seg):(zb1 vs L).length=vs.length:=zxt _ _ _ _
theorem zi0 {vs:List Vec} {L:List Seg} {i:Nat} (h:i<vs.length):za (zb1 vs L) i=(itL L i,kd vs i):=by
 have:=z9y (vs:=vs) (l:=yi L) (ix:=(qn L).map fun (n:Nat)=>(n:Int)) (d:=(yi L).length) h;rw[zzh L i _ (by rw[zb0];exact Nat.le_refl _),zb0,List.take_length] at this;unfold zb1 qj zn9;rw[zb0];exact this
theorem zop {L:List Seg} {i:Nat} {s:Iv} (h:s∈itL L i):(s,i)∈L:=by
 obtain⟨p,hp,rfl⟩:=List.mem_map.1 h;obtain⟨h1,h2⟩:=List.mem_filter.1 hp;have e:p.2=i:=of_decide_eq_true h2;subst e;exact h1
theorem ybm {L:List Seg} (h:L.Pairwise zso):∀p∈L,∀q∈L,p=q∨p.1.2<q.1.1∨q.1.2<p.1.1:=by
 intro p hp q hq;obtain⟨i,hi,rfl⟩:=List.getElem_of_mem hp;obtain⟨j,hj,rfl⟩:=List.getElem_of_mem hq;rcases Nat.lt_trichotomy i j with h1 | h1 | h1
 · exact .inr (.inl (List.pairwise_iff_getElem.1 h i j hi hj h1).1)
 · subst h1;exact .inl rfl
 · exact .inr (.inr (List.pairwise_iff_getElem.1 h j i hj hi h1).1)
theorem zzq {le lh:Int} {vs:List Vec} {L:List Seg} (hv:VsInv le lh vs) (hs:SInv vs.length (yi L) (qn L)) (hne:∀f∈zb1 vs L,f.1≠[]):CanK (zb1 vs L)∧LtK (zb1 vs L):=by
 obtain⟨h1,h2⟩:=zzi hs
 have hmem:∀f∈zb1 vs L,∃i,i<vs.length∧f=(itL L i,kd vs i):=fun f hf=>by
  obtain⟨i,hi,rfl⟩:=List.getElem_of_mem hf;have hi':=hi;rw[zfz] at hi';exact⟨i,hi',by rw[←qm hi,zi0 hi']⟩
 have hgood:∀i,Good (itL L i):=fun i=>zzj (List.pairwise_map.2 ((h1.filter _).imp_of_mem fun {p q} hp hq hpq=>by
  have e1:p.2=i:=of_decide_eq_true (List.mem_filter.1 hp).2;have e2:q.2=i:=of_decide_eq_true (List.mem_filter.1 hq).2;exact hpq.2 (by rw[e1,e2]))) fun s hs=>(h2 _ (zop hs)).1
 refine⟨⟨fun f hf=>?_,fun f hf=>?_,fun f hf g hg x hx hy=>?_,?_⟩,fun f hf=>?_⟩
 · obtain⟨i,hi,rfl⟩:=hmem f hf;exact⟨hgood i,hne _ hf⟩
 · obtain⟨i,hi,rfl⟩:=hmem f hf;have:=hv.all _ (zry hi);exact⟨this.1,this.2.2.1⟩
 · obtain⟨i,hi,rfl⟩:=hmem f hf;obtain⟨j,hj,rfl⟩:=hmem g hg;obtain⟨s,hs1,hs2,hs3⟩:=mem_iff.1 hx;obtain⟨t,ht1,ht2,ht3⟩:=mem_iff.1 hy;rcases ybm h1 _ (zop hs1) _ (zop ht1) with e | e | e
   · have e':i=j:=congrArg Prod.snd e;subst e'
     rfl
   · simp only at e;omega
   · simp only at e;omega
 · refine List.pairwise_iff_getElem.2 fun i j hi hj hij=>?_
   have hi':=hi;have hj':=hj;rw[zfz] at hi' hj';have h3:=List.pairwise_iff_getElem.1 hv.asc i j hi' hj' hij;unfold zae;rw[←qm hi,←qm hj,zi0 hi',zi0 hj',zgo hi',zgo hj'];exact h3
 · obtain⟨i,hi,rfl⟩:=hmem f hf;have:=hv.all _ (zry hi);exact⟨fun s hs'=>hs.lt s (List.mem_map.2 ⟨_,zop hs',rfl⟩),this.2.1,this.1.asc⟩
theorem ybn {n:Nat}:∀{L:List Seg},(∀p∈L,p.2<n)→L.Perm ((List.range n).flatMap fun i=>L.filter fun p=>decide (p.2=i)):=by
 induction n with
 | zero=>
  intro L h
  cases L with
  | nil=>simp
  | cons p L=>exact absurd (h p List.mem_cons_self) (by omega)
 | succ n ih=>
  intro L h;rw[List.range_succ,List.flatMap_append];have e:((L.filter fun p=>decide (p.2=n))++(L.filter fun p=> !decide (p.2=n))).Perm L:=List.filter_append_perm _ _;refine e.symm.trans (List.perm_append_comm.trans ?_)
  have h1:=ih (L:=L.filter fun p=> !decide (p.2=n)) (fun p hp=>by
   obtain⟨a,b⟩:=List.mem_filter.1 hp;have:=h p a;have b':p.2≠n:=by simpa using b
   omega)
  have e2:((List.range n).flatMap fun i=>(L.filter fun p=> !decide (p.2=n)).filter fun p=>decide (p.2=i))=(List.range n).flatMap fun i=>L.filter fun p=>decide (p.2=i):=by
   rw[List.flatMap_def,List.flatMap_def];refine congrArg List.flatten (List.map_congr_left fun i hi=>?_);rw[List.filter_filter];refine List.filter_congr fun p _=>?_
   have:=List.mem_range.1 hi;by_cases hp:p.2=i
   · have:p.2≠n:=by omega
     simp[hp];omega
   · simp[hp]
  rw[e2] at h1;refine h1.append ?_;simp
theorem zzr (c:Kno):∀d,d≤c.length→qv c d=c.length :: ((vsK c).take d).flatMap zan
 | 0,_=>by simp[qv]
 | d+1,h=>by
   rw[qv,zzr c d (by omega),List.take_succ_eq_append_getElem (by rw[zhn];exact h),zol h,List.flatMap_append];simp
theorem ybo (vs:List Vec) (L:List Seg):vsK (zb1 vs L)=vs:=by
 refine List.ext_getElem (by rw[zhn,zfz]) fun i h1 h2=>?_
 rw[zol (by rw[zfz];exact h2),zi0 h2,zgo h2]
theorem ybp {le lh:Int} {vs:List Vec} {L:List Seg} (hv:VsInv le lh vs) (hs:SInv vs.length (yi L) (qn L)) (hne:∀f∈zb1 vs L,f.1≠[]):(zk (zb1 vs L)).map (·.1)=yi L∧(zk (zb1 vs L)).map (·.2)=qn L:=by
 obtain⟨hc,hl⟩:=zzq hv hs hne;obtain⟨h1,h2⟩:=zzi hs
 have hp:(yi L).Perm (zat (zb1 vs L)):=by
  have e:=(ybn (n:=vs.length) (L:=L) fun p hp=>(h2 p hp).2).map (·.1);refine e.trans ?_;rw[List.map_flatMap]
  have:zat (zb1 vs L)=(List.range vs.length).flatMap fun i=>(L.filter fun p=>decide (p.2=i)).map (·.1):=by
   unfold zat
   have:zb1 vs L=(List.range vs.length).map fun i=>(itL L i,kd vs i):=List.ext_getElem (by rw[zfz];simp) fun i a b=>by
    rw[zfz] at a;rw[←qm,zi0 a,List.getElem_map,List.getElem_range]
   rw[this,List.flatMap_map]
   rfl
  rw[this]
 have ha:zit (yi L):=fun i j hij hj=>by
  rw[zb0] at hj;have h3:=(List.pairwise_iff_getElem.1 h1 i j (by omega) hj hij).1;have h4:=(h2 _ (List.getElem_mem (show i<L.length by omega))).1;rw[jg (by rw[zb0];omega),jg (by rw[zb0];exact hj)];simp only[yi,List.getElem_map];omega
 obtain⟨e1,e2⟩:=zxl hc hp ha;refine⟨e1.symm,?_⟩;rw[←e2];unfold yi qn;rw[List.map_map];refine List.map_congr_left fun p hp=>?_
 have hi:=(h2 p hp).2
 have:=zxj hc (i:=p.2) (s:=p.1) (by rw[zfz];exact hi) (by
  rw[zi0 hi];exact List.mem_map.2 ⟨p,List.mem_filter.2 ⟨hp,decide_eq_true rfl⟩,rfl⟩)
 exact this
theorem zzs {T:ye} (hT:T64 T) {E p q:Nat} {L:zc} {c:Kno} (h:jc T E L p=.ok (c,q)):CanK c∧LtK c∧okK L c∧jq T p (zn c) q∧E≤q:=by
 unfold jc at h;obtain⟨n,r,h1,h2⟩:=zaw h;obtain⟨t1,c1⟩:=zlv h1;obtain⟨vs,r2,h3,h4⟩:=zaw h2;obtain⟨a1,a2,a3⟩:=zzd hT n [] h3 ⟨fun v hv=>(by cases hv),List.Pairwise.nil⟩ (P0:=r) rfl;have hn:vs.length=n:=by simpa using a3
 unfold zc2 at h4;obtain⟨m,r3,h5,h6⟩:=zaw h4;obtain⟨t2,c2⟩:=zlv h5;obtain⟨⟨l,ix⟩,r4,h7,h8⟩:=zaw h6;obtain⟨b1,b2,b3⟩:=zzg hT m [] [] h7 ⟨fun i hi=>(by simp at hi),fun t ht=>(by cases ht),rfl,fun i hi=>(by simp at hi),fun i _ hi=>(by simp at hi)⟩ (P0:=r3) rfl;have hm:l.length=m:=by simpa using b3
 simp only at h8;obtain⟨S,e1,e2⟩:∃S:List Seg,yi S=l∧qn S=ix:=⟨l.zip ix,List.map_fst_zip (by rw[b2.len];exact Nat.le_refl _),List.map_snd_zip (by rw[b2.len];exact Nat.le_refl _)⟩;subst e1 e2;unfold zbq at h8;split at h8
 · cases h8
 · rename_i h9;split at h8
   · cases h8
   · rename_i h10;cases h8;have hne:∀f∈zb1 vs S,f.1≠[]:=fun f hf e=>h9 ⟨f,hf,e⟩
     obtain⟨g1,g2⟩:=zzq a2 b2 hne;obtain⟨g3,g4⟩:=ybp a2 b2 hne;have hsl:(zk (zb1 vs S)).length=(yi S).length:=by rw[←g3,List.length_map]
     refine⟨g1,g2,⟨?_,fun i hi=>?_,?_⟩,?_,by omega⟩
     · show okC (zb1 vs S).length _;rw[zfz,hn];exact c1
     · have hi':i<vs.length:=by rw[←zfz vs S];exact hi
       show okV _ _ (za (zb1 vs S) i).2;rw[zi0 hi'];exact(a2.all _ (zry hi')).2.2.2
     · show okC (zk (zb1 vs S)).length _;rw[hsl,hm];exact c2
     · show jq T p (zn (zb1 vs S)) _;unfold zn;rw[g3,g4,hsl,zzr _ _ (Nat.le_refl _),List.take_of_length_le (by rw[zhn];exact Nat.le_refl _),ybo,zfz,zze];refine zbr.2 ⟨r2,⟨r,by rw[hn];exact t1,a1⟩,⟨r3,by rw[hm];exact t2,b1⟩⟩
end
section
open Go.RowKit
attribute [local go_sem] y9
theorem ybq (f:Fn) (a b:Array Value) (w:World):(binOp .neq 345 (.func f a b) .nilFunc).run Tryz.prog w=.ok (.bool true) w:=by kernel_rfl
theorem ybr (f:Fn) (a b:Array Value) (w:World):(binOp .eql 345 (.func f a b) .nilFunc).run Tryz.prog w=.ok (.bool false) w:=by kernel_rfl
theorem ybs (w:World):(binOp .neq 345 .nilFunc .nilFunc).run Tryz.prog w=.ok (.bool false) w:=by kernel_rfl
theorem ybt (w:World):(binOp .eql 345 .nilFunc .nilFunc).run Tryz.prog w=.ok (.bool true) w:=by kernel_rfl
theorem ybu (P:Program) (w:World) (a:Addr) (m:Mode):(store a .nilFunc m).run P w=stored P w a .nilFunc m:=run_store P w a _ m rfl
attribute [local go_sem] ybu ybq ybr ybs ybt
def PkP (w:World) (base g:Nat) (L:zc) (r:Except Nat PS) (e:Ending) (w':World):Prop:=
 BelT base w w'∧match r with
 | .error c=>e=.returned (.tuple #[.bool true,.iface 27 (.int .i64 (c:Int))])
 | .ok s'=>e=.returned (.tuple #[.bool (decide (s'.tag=6)),.nilIface])∧PkR w' base g L (pkF g s'.tag) s'
theorem ybv (g t:Nat) (h:t<6):∃f,pkF g t=.func (.func f) #[.pointer (some ⟨g,0,none⟩)] #[]:=by
 rcases(by omega:t=0∨t=1∨t=2∨t=3∨t=4∨t=5) with rfl | rfl | rfl | rfl | rfl | rfl <;> exact⟨_,rfl⟩
set_option maxRecDepth 20000 in
theorem zj9 (base g:Nat) (L:zc) (V cu:Value) (ents hls t:Nat) (ht6:t<6) (r:Except Nat PS) (x rest:Nat) (w:World) (hg:base≤g) (hR:Row w g 347 (pkC L (pkF g t) V ents hls cu))
 (hS:∀f,pkF g t=.func (.func f) #[.pointer (some ⟨g,0,none⟩)] #[]→Calls Tryz.prog f #[.pointer (some ⟨g,0,none⟩),.int .u64 (x:Int),.int .i64 (rest:Int)] w (PkS w base g L r)) (h6:∀s',r=.ok s'→s'.tag≤6):
 Calls Tryz.prog 207 #[.pointer (some ⟨g,0,none⟩),.int .u64 (x:Int),.int .i64 (rest:Int)] w (PkP w base g L r):=by
 have q5:=hR.cell 5 rfl;have q6:=hR.cell 6 rfl;have Hg:=hid hg;have HoG:=hid (hR.okR zlq)
 cases r with
 | error c=>
  rcases(by omega:t=0∨t=1∨t=2∨t=3∨t=4∨t=5) with rfl | rfl | rfl | rfl | rfl | rfl
  all_goals
   have HS:=hid (hS _ rfl);simp only[pkF] at q5;clear hS;clear hR h6;go_enter Tryz.func207,Tryz.ntmps207;go_wp2_with fail;refine HS.out.mono ?_;rintro e w1 ⟨hb,rfl,C,hR1,hC⟩;obtain⟨y5,p5⟩:∃y,w1.cell? ⟨g,5,none⟩=some y:=⟨_,hR1.cell 5 (List.getElem?_eq_getElem (by omega))⟩;obtain⟨y6,p6⟩:∃y,w1.cell? ⟨g,6,none⟩=some y:=⟨_,hR1.cell 6 (List.getElem?_eq_getElem (by omega))⟩;have z5:=hR1.fz 5;have z6:=hR1.fz 6;have Hb:=hid ((hb.setCell (p:=⟨g,5,none⟩) hg .nilFunc HoG.out).setCell (p:=⟨g,6,none⟩) hg (.iface 27 (.int .i64 (c:Int))) HoG.out);clear hb hR1 hC q5 q6;go_wp2_with fail;go_quiet (fail);all_goals go_wp2_with fail
   all_goals go_ret2
   all_goals exact⟨zfa Hb.out _,rfl⟩
 | ok s'=>
  rcases(by omega:t=0∨t=1∨t=2∨t=3∨t=4∨t=5) with rfl | rfl | rfl | rfl | rfl | rfl
  all_goals
   have HS:=hid (hS _ rfl);simp only[pkF] at q5;clear hS;have H6:=hid (h6 s' rfl);clear hR h6;go_enter Tryz.func207,Tryz.ntmps207;go_wp2_with fail;refine HS.out.mono ?_;rintro e w1 ⟨hb,nx,rfl,hg',V',cu',hR1,hB⟩;have p5:=hR1.cell 5 rfl;have p6:=hR1.cell 6 rfl;have z5:=hR1.fz 5;have z6:=hR1.fz 6;have Hb:=hid ((hb.setCell (p:=⟨g,5,none⟩) hg (pkF g s'.tag) HoG.out).setCell (p:=⟨g,6,none⟩) hg .nilIface HoG.out);have HR:=hid (show Row ((w1.setCell ⟨g,5,none⟩ (pkF g s'.tag)).setCell ⟨g,6,none⟩ .nilIface) g 347 (pkC L (pkF g s'.tag) V' s'.ents s'.hls cu') from(hR1.set 5 _).set 6 _);have HB:=hid (hB.grown hR1 (yz (a:=⟨g,6,none⟩) (yz (a:=⟨g,5,none⟩) (vy w1 _) (pkF g s'.tag) (.inr rfl)) .nilIface (.inr rfl)));clear hb hR1 hB q5 q6;by_cases ht:s'.tag=6
   · have Hd:=hid (show decide (s'.tag=6)=true from decide_eq_true ht);have Hf:=hid (show pkF g s'.tag=.nilFunc from by rw[ht];rfl);rw[Hf.out] at HR HB Hb ⊢;clear ht;go_wp2_with fail;go_quiet (fail);all_goals go_wp2_with fail
     all_goals go_ret2
     all_goals exact⟨zfa Hb.out _,by rw[Hd.out];rfl,hg,V',cu',by rw[Hf.out];exact HR.out,HB.out.later (z7 (Below.refl _ _) _)⟩
   · have Hd:=hid (show decide (s'.tag=6)=false from decide_eq_false ht);obtain⟨f',hf'⟩:=ybv g s'.tag (by have:=H6.out;omega);have Hf:=hid hf';rw[hf'] at HR HB Hb ⊢;clear ht hf';go_wp2_with fail;go_quiet (fail);all_goals go_wp2_with fail
     all_goals go_ret2
     all_goals exact⟨zfa Hb.out _,by rw[Hd.out];rfl,hg,V',cu',by rw[Hf.out];exact HR.out,HB.out.later (z7 (Below.refl _ _) _)⟩
theorem zzt (base g:Nat) (L:zc) (s:PS) (x rest:Nat) (w:World) (h:PkR w base g L (pkF g s.tag) s) (ht:s.tag<6) (hL:LimsI L) (hx:x<18446744073709551616) (hr:rest<9223372036854775808) (hF:PFit s 900000000000) (he:1≤s.tag→0<s.ents):
 Calls Tryz.prog 207 #[.pointer (some ⟨g,0,none⟩),.int .u64 (x:Int),.int .i64 (rest:Int)] w (PkP w base g L (jm L.2.2.1 L.2.2.2.1 s x rest)):=by
 have h6:∀s',jm L.2.2.1 L.2.2.2.1 s x rest=.ok s'→s'.tag≤6:=fun s' hs=>(zlk ht he hs).1
 have hvl:=hF.vl;obtain⟨hg,V,cu,hR,hB⟩:=h;have hP:PkR w base g L (pkF g s.tag) s:=⟨hg,V,cu,hR,hB⟩;rcases(by omega:s.tag=0∨s.tag=1∨s.tag=2∨s.tag=3∨s.tag=4∨s.tag=5) with e | e | e | e | e | e
 · exact zj9 base g L V cu _ _ s.tag ht _ x rest w hg hR (fun f hf=>by rw[e] at hf;cases hf;exact(ybc base g L _ s x rest w hP e hL hx hr)) h6
 · exact zj9 base g L V cu _ _ s.tag ht _ x rest w hg hR (fun f hf=>by rw[e] at hf;cases hf;exact(yba base g L _ s x rest w hP e hx hF.v (by omega))) h6
 · exact zj9 base g L V cu _ _ s.tag ht _ x rest w hg hR (fun f hf=>by rw[e] at hf;cases hf;exact(ybd base g L _ s x rest w hP e (by omega))) h6
 · exact zj9 base g L V cu _ _ s.tag ht _ x rest w hg hR (fun f hf=>by rw[e] at hf;cases hf;exact(ya6 base g L _ s x rest w hP e hL hx hr (he (by omega)) hF.ents)) h6
 · exact zj9 base g L V cu _ _ s.tag ht _ x rest w hg hR (fun f hf=>by rw[e] at hf;cases hf;exact(ya7 base g L _ s x rest w hP e hx hF.h)) h6
 · exact zj9 base g L V cu _ _ s.tag ht _ x rest w hg hR (fun f hf=>by rw[e] at hf;cases hf;exact(ybl base g L _ s x rest w hP e hx hF (he (by omega)))) h6
set_option maxRecDepth 20000 in
theorem zzu (base g:Nat) (L:zc) (s:PS) (w:World) (h:PkR w base g L (pkF g s.tag) s) (ht:s.tag=6):
 Calls Tryz.prog 208 #[.pointer (some ⟨g,0,none⟩)] w fun e w'=>(∃V,e=.returned V∧OwnV w base V s.v)∧w=w':=by
 obtain⟨hg,V,cu,hR,hB⟩:=h;have hV:OwnV w base V s.v:=by unfold PkB at hB;rw[ht] at hB;exact hB
 rw[ht] at hR;have q5:=hR.cell 5 rfl;have q6:=hR.cell 6 rfl;have q7:=hR.cell 7 rfl;have HV:=hid hV;simp only[pkF] at q5;clear hR hB hV ht;go_enter Tryz.func208,Tryz.ntmps208;go_wp2_with fail;go_ret;exact⟨⟨_,rfl,HV.out⟩,rfl⟩
end
section
def zci {α:Type} (E:Nat) (a:RR α):Prop:=match a with | .error e=>e.2≤E∧e.1≠0 | .ok y=>y.2≤E
structure TokE (T:ye) (E:Nat):Prop where
 ok:∀p x q,T p=.ok (x,q)→q≤E
 error:∀p c,T p=.error c→c≠0
theorem zc3 {α β:Type} {E:Nat} {a:RR α} {f:α→Nat→RR β} (h:zci E a) (hf:∀x q,q≤E→zci E (f x q)):zci E (thn a f):=by
 cases a with
 | error e=>exact h
 | ok y=>exact hf y.1 y.2 h
theorem zhq {α:Type} {E:Nat} {c:Prop} [Decidable c] {a b:RR α} (h1:zci E a) (h2:zci E b):zci E (if c then a else b):=by split <;> assumption
variable {T:ye} {E:Nat}
theorem zka (h:TokE T E) {p:Nat} (hp:p≤E):zci E (nmP T p):=by
 unfold nmP
 cases hT:T p with
 | error c=>exact⟨hp,h.error p c hT⟩
 | ok y=>exact h.ok p y.1 y.2 hT
theorem zoq (h:TokE T E) (lim:Int) {p:Nat} (hp:p≤E):zci E (jf T E lim p):=zc3 (zka h hp) fun x q hq=>by
 split
 · exact hq
 · rename_i h1;exact⟨hp,h1⟩
theorem ybw (h:TokE T E) (lo:Nat) {q:Nat} (hq:q≤E):zci E (hiP T lo q):=zc3 (zka h hq) fun x r hr=>zhq hr ⟨hq,by simp⟩
theorem zzv (lo:Nat) {q r:Nat} {s:Iv×Nat} (h:hiP T lo q=.ok (s,r)):s.2=q:=by
 unfold hiP at h;obtain⟨x,r',-,h2⟩:=zaw h;split at h2
 · cases h2;rfl
 · cases h2
theorem zzw (h:TokE T E) (prev:Option Nat) (a:Nat) {p:Nat} (hp:p≤E):zci E (ivP T prev a p):=zc3 (zka h hp) fun x q hq=>by
 cases loP prev a x with
 | none=>exact⟨hp,by simp⟩
 | some lo=>exact ybw h lo hq
theorem ybx (h:TokE T E) {prev:Option Nat} {a p r:Nat} {s:Iv×Nat} (hv:ivP T prev a p=.ok (s,r)):s.2≤E:=by
 unfold ivP at hv;obtain⟨x,q,h1,h2⟩:=zaw hv
 cases hlo:loP prev a x with
 | none=>rw[hlo] at h2;cases h2
 | some lo=>rw[hlo] at h2;rw[zzv lo h2];exact h.ok _ _ _ (zgv h1)
theorem yby {α β:Type} {a:RR α} {f:α→Nat→RR β} (h:zci E a) (hf:∀x q,a=.ok (x,q)→q≤E→zci E (f x q)):zci E (thn a f):=by
 cases a with
 | error e=>exact h
 | ok y=>exact hf y.1 y.2 rfl h
theorem zzx (h:TokE T E) (mx:Nat):∀n acc {p:Nat},p≤E→zci E (ke T mx n acc p)
 | 0,acc,p,hp=>hp
 | n+1,acc,p,hp=>by
   rw[ke];refine yby (zzw h _ _ hp) fun s q hs hq=>?_
   unfold zc0;exact zhq ⟨ybx h hs,by simp⟩ (zzx h mx n _ hq)
theorem zzy (h:TokE T E) (lim:Int):∀n acc {p:Nat},p≤E→zci E (vu T E lim n acc p)
 | 0,acc,p,hp=>hp
 | n+1,acc,p,hp=>by
   rw[vu];refine zc3 (zc3 (zka h hp) fun x q hq=>?_) fun e q hq=>zzy h lim n _ hq
   cases zbu acc x with
   | none=>exact⟨hp,by simp⟩
   | some r=>exact zc3 (zka h hq) fun mx q hq=>zc3 (zoq h lim hq) fun n q hq=>zc3 (zzx h mx n [] hq) fun _ _ hq=>hq
theorem zzz (h:TokE T E) (le lh:Int):∀n acc {p:Nat},p≤E→zci E (kg T E le lh n acc p)
 | 0,acc,p,hp=>hp
 | n+1,acc,p,hp=>by
   rw[kg];refine zc3 (zc3 (zoq h le hp) fun n q hq=>zhq ⟨hp,by simp⟩ (zzy h lh n [] hq)) fun v q hq=>zhq ⟨hp,by simp⟩ (zzz h le lh n _ hq)
theorem zz0 (h:TokE T E) (N:Nat):∀m l ix {p:Nat},p≤E→zci E (vv T N m l ix p)
 | 0,l,ix,p,hp=>hp
 | m+1,l,ix,p,hp=>by
   rw[vv];refine zc3 (zzw h _ _ hp) fun s q hq=>zc3 (zka h hq) fun x r hr=>zhq ⟨hq,by simp⟩ (zhq ⟨hq,by simp⟩ (zz0 h N m _ _ hr))
theorem zsq (h:TokE T E) (L:zc) {p:Nat} (hp:p≤E):zci E (jc T E L p):=
 zc3 (zoq h _ hp) fun n q hq=>zc3 (zzz h _ _ n [] hq) fun vs q hq=>zc3 (zoq h _ hq) fun m q hq=>zc3 (zz0 h _ m [] [] hq) fun s q hq=>zhq ⟨hq,by simp⟩ (zhq ⟨hq,by simp⟩ hq)
theorem zz4 {l:List Nat} (hl:∀c∈l,c<256):Fwd (jx l):=fun p x q h=>(zgt hl h).1
theorem ybz {l:List Nat} (hl:∀c∈l,c<256):T64 (jx l):=fun p x q h=>(zgt hl h).2.2.1
theorem zsr {l:List Nat} (hl:∀c∈l,c<256):TokE (jx l) l.length:=⟨fun p x q h=>(zgt hl h).2.1,fun p c h=>by
 unfold jx at h;split at h
 · cases h
 · cases h;decide
 · cases h;decide⟩
def k9 (L:zc) (l:List Nat):RR Kno:=jc (jx l) l.length L 0
theorem zf0 (ns:List Nat):∀c∈zq ns,c<256:=fun c hc=>by
 unfold zq at hc;obtain⟨x,-,hx⟩:=List.mem_flatMap.1 hc;exact znl x c hx
theorem zz5 {L:zc} {c:Kno} (hc:CanK c) (hK:EncK c) (t:List Nat) (ht:∀x∈t,x<256):
 (okK L c→k9 L (zq (zn c)++t)=if 0<t.length then .error (11,(zq (zn c)).length) else .ok (c,(zq (zn c)).length))∧(¬okK L c→∃w,k9 L (zq (zn c)++t)=.error (7,w)):=by
 have hl:∀x∈zq (zn c)++t,x<256:=fun x hx=>by
  rcases List.mem_append.1 hx with h | h
  · exact zf0 _ x h
  · exact ht x h
 have hr:=zsa (l:=zq (zn c)++t) (ns:=zn c) (t:=t) (p:=0) (zoe hK) rfl;rw[Nat.zero_add] at hr;obtain⟨h1,h2⟩:=zy0 (E:=(zq (zn c)++t).length) (L:=L) (zz4 hl) hc hK.lt hr (by rw[List.length_append];omega);refine⟨fun h=>?_,h2⟩;unfold k9;rw[h1 h,List.length_append];by_cases h0:0<t.length
 · rw[if_pos h0,if_pos (by omega)]
 · rw[if_neg h0,if_neg (by omega)]
theorem yb0 {L:zc} {l:List Nat} (hl:∀c∈l,c<256) {c:Kno} {q:Nat} (h:k9 L l=.ok (c,q)):CanK c∧LtK c∧okK L c∧zq (zn c)=l∧q=l.length:=by
 obtain⟨h1,h2,h3,h4,h5⟩:=zzs (ybz hl) h
 have hq:q=l.length:=by
  have:=zsq (zsr hl) L (p:=0) (Nat.zero_le _);have e:jc (jx l) l.length L 0=.ok (c,q):=h;rw[e] at this;exact Nat.le_antisymm this h5
 refine⟨h1,h2,h3,?_,hq⟩;have:=zsb hl h4;rw[hq,List.drop_length,List.append_nil] at this;exact this.symm
theorem yb1 {L:zc} {l:List Nat} (hl:∀c∈l,c<256) {e:Nat×Nat} (h:k9 L l=.error e):e.2≤l.length∧e.1≠0:=by
 have:=zsq (zsr hl) L (p:=0) (Nat.zero_le _);have e':jc (jx l) l.length L 0=.error e:=h;rw[e'] at this;exact this
abbrev unl:zc:=(9223372036854775807,9223372036854775807,9223372036854775807,9223372036854775807,9223372036854775807)
theorem zor {n:Nat} (h:n≤100000):okC n 9223372036854775807:=.inl (by omega)
theorem yb2 {c:Kno} (hK:EncK c):(zk c).length≤1000:=by
 have h2:=zfv c c.length (Nat.le_refl _);rw[List.take_length] at h2;have:=hK.sum;unfold zk;omega
theorem zlz {c:Kno} (hK:EncK c):okK unl c:=
 ⟨zor (by have:=hK.len;omega),fun i hi=>⟨zor (by have:=(hK.vec _ (yh hi)).len;omega),fun j hj=>zor (by have:=(hK.vec _ (yh hi)).holes _ (vq hj);omega)⟩,zor (by have:=yb2 hK;omega)⟩
theorem zss {c:Kno} (hK:EncK c) {L:zc} (h:okK L c):k9 L (zq (zn c))=.ok (c,(zq (zn c)).length):=by
 have:=(zz5 (L:=L) hK.can hK [] (fun x hx=>(by cases hx))).1 h;rw[List.append_nil] at this;exact this
theorem yq5 {a b:Kno} (ka:EncK a) (kb:EncK b) (h:zq (zn a)=zq (zn b)):a=b:=by
 have h1:=zss ka (zlz ka);have h2:=zss kb (zlz kb);rw[h,h2] at h1;injection h1 with h1;injection h1 with h1 _;exact h1.symm
theorem zos:∀(l:List Nat) (n j x:Nat),yf (l.take n) j x=yf l j x∨(yf (l.take n) j x).1=0
 | [],n,j,x=>by rw[List.take_nil];exact .inl rfl
 | c :: l,0,j,x=>.inr rfl
 | c :: l,n+1,j,x=>by
   rw[List.take_succ_cons,yf,yf];split
   · exact .inl rfl
   · split
     · exact .inl rfl
     · exact zos l n _ _
theorem yb3 (l:List Nat) (n p:Nat):jx (l.take n) p=jx l p∨jx (l.take n) p=.error 5:=by
 unfold jx;rw[List.drop_take];rcases zos (l.drop p) (n - p) 0 0 with h | h
 · rw[h];exact .inl rfl
 · refine .inr ?_;generalize yf ((l.drop p).take (n - p)) 0 0=s at h;obtain⟨a,b,d⟩:=s;simp only at h;subst h
   rfl
theorem yq6 {L:zc} {l:List Nat} (hl:∀c∈l,c<256) {c:Kno} {q n:Nat} (h:k9 L l=.ok (c,q)) (hn:n<l.length):∃w,k9 L (l.take n)=.error (5,w):=by
 obtain⟨-,-,-,-,hq⟩:=yb0 hl h;have hl':∀c∈l.take n,c<256:=fun c hc=>hl c (List.mem_of_mem_take hc)
 have e:(l.take n).length=n:=by rw[List.length_take];omega
 have:=ybj (T:=jx l) (T':=jx (l.take n)) (E:=l.length) (E':=n) ⟨fun p=>yb3 l n p,.inr ⟨rfl,by omega⟩⟩ (fun p x q h=>by have:=(zgt hl' h).2.1;omega) L (Nat.zero_le _) h (by omega);unfold k9;rw[e];exact this
end
