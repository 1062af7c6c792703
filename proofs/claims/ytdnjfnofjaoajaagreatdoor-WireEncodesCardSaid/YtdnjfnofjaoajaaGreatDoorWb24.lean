/- Walks and laws, joined: Wb24. -/
import Derived.Test.YtdnjfnofjaoajaaGreatDoorWb23
set_option linter.unusedVariables false
set_option maxHeartbeats 16000000
namespace Go.Proofs.YtdnjfnofjaoajaaGreatDoor
open Lib (hid)
section
open Go.RowKit
structure Grw (w w':World) (v v':Value):Prop where
 g:w.grownBy w' v.ownBlock
 b:∀k,v'.ownBlock=some k→v.ownBlock=some k∨w.heap.size≤k
theorem Grw.refl (w:World) (v:Value):Grw w w v v:=⟨World.grownBy.refl _ _,fun k h=>.inl h⟩
theorem Grw.trans {w1 w2 w3:World} {v1 v2 v3:Value} (h:Grw w1 w2 v1 v2) (k:Grw w2 w3 v2 v3):Grw w1 w3 v1 v3:=by
 refine⟨⟨k.g.os.trans h.g.os,k.g.tape.trans h.g.tape,k.g.output.trans h.g.output,Nat.le_trans h.g.size k.g.size,fun i hi hn=>?_⟩,fun i hi=>?_⟩
 · rw[k.g.block i (Nat.lt_of_lt_of_le hi h.g.size) (fun e=>?_),h.g.block i hi hn];rcases h.b i e.symm with h' | h'
   · exact hn h'.symm
   · omega
 · rcases k.b i hi with h' | h'
   · exact h.b i h'
   · exact .inr (Nat.le_trans h.g.size h')
theorem Grw.below {w w1 w2:World} {v v1:Value} (h:Grw w w1 v v1) (hb:Below w1.heap.size w1 w2):Grw w w2 v v1:=
 ⟨⟨hb.os.trans h.g.os,hb.tape.trans h.g.tape,hb.output.trans h.g.output,Nat.le_trans h.g.size hb.size,fun i hi hn=>(hb.block i (Nat.lt_of_lt_of_le hi h.g.size)).trans (h.g.block i hi hn)⟩,h.b⟩
theorem Grw.alloc {w w1:World} {v v1:Value} (h:Grw w w1 v v1) (o:Obj):Grw w (w1.alloc o) v v1:=h.below ((Below.refl _ _).alloc (Nat.le_refl _) o)
theorem Grw.toBelow {w w':World} {v v':Value} {base:Nat} (h:Grw w w' v v') (hb:base≤w.heap.size) (hv:∀k,v.ownBlock=some k→base≤k):Below base w w':=(Below.refl _ _).grown h.g hb hv
theorem Grw.row {w w':World} {v v':Value} (h:Grw w w' v v') {base sz n:Nat} {e:TypeId} {u:Value} {xs:List Value} (ho:w.ownsRow base e sz u n xs) (hn:∀k,u.ownBlock=some k→v.ownBlock≠some k):w'.ownsRow base e sz u n xs:=
 zaz ho fun k hk=>h.g.block k (ho.lt k hk).2 (fun e=>hn k hk e.symm)
theorem zu3 {w:World} (base:Nat) (v:Value) (n:Nat) (xs:List Value) (hown:w.ownsRow base 5 1 v n xs) (p c q:Nat) (hc:w.cell? ⟨p,0,none⟩=some (.int .u8 (q:Int))) (hq:q<256) (h1c:1≤c) (h2c:c≤9223372036854775807) (hb:n+1≤140737488355328) (hbase:base≤w.heap.size):
 ∃v' w',(Builtin.append_ #[27,27] 27 #[v,.slice (some ⟨p,0,none⟩) 1 c]).run Tryz.prog w=.ok v' w'∧w'.ownsRow base 5 1 v' (n+1) (xs++u8s [q])∧Grw w w' v v':=by
 have hB:Byts w (some ⟨p,0,none⟩) 1 c [q]:=by
  refine⟨rfl,?_,h1c,h2c,(by intro h;cases h),fun _=>⟨p,0,rfl,fun i hi=>?_⟩⟩
  · intro x hx;simp at hx;omega
  · obtain rfl:i=0:=by omega
    exact hc
 rcases hown.2 with ⟨rfl,h0⟩ | ⟨g,cap,cur,rfl,hg,hrow,hnc,hcm,hcs,htake⟩
 · have hx:xs=[]:=by
    have:=hown.1;rw[h0] at this;exact List.length_eq_zero_iff.1 (by omega)
   subst h0 hx;obtain⟨v',w',h1,h2,h3⟩:=zge (w:=w) w.heap.size (.slice none 0 0) 0 [] (World.ownsRow_nil _ _ _ _) (some ⟨p,0,none⟩) 1 c [q] hB (by omega) (Nat.le_refl _);exact⟨v',w',h1,y9 h2 hbase,h3,fun k e=>.inr (h2.lt _ e).1⟩
 · obtain⟨i,hi,hz,hs,hby⟩:=info_parts Tryz.info_u8;have hnews:∀j u,(u8s [q])[j]?=some u→w.cell? ((⟨p,0,none⟩:Addr).add j)=some u:=hB.news;have hone:∀u∈u8s [q],u.oneCell'=true:=by intro u hu;simp[u8s] at hu;subst hu;rfl
   by_cases hf:n+1≤cap
   · obtain⟨w',r1,r2,r3⟩:=run_append_fits (P:=Tryz.prog) w base 27 27 5 i 1 Tryz.underlying27 hi hs g n cap _ hown ⟨p,0,none⟩ 1 c (u8s [q]) rfl hnews hone hf;exact⟨_,w',r1,r2,r3,fun k e=>.inl e⟩
   · obtain⟨v',w',r1,r2,r3⟩:=run_append_arg_grows (P:=Tryz.prog) w 27 27 5 i _ 1 1 Tryz.underlying27 hi hz hs hby rfl (by omega) ⟨g,0,none⟩ n cap xs hown.1 (fun j u hu=>hown.cells (g:=g) rfl j u hu) ⟨p,0,none⟩ 1 c (u8s [q]) rfl hnews (by omega) (by unfold maxLen;omega) (by omega);exact⟨v',w',r1,y9 r2 hbase,⟨r3.os,r3.tape,r3.output,r3.size,fun k hk _=>r3.block k hk (by simp)⟩,fun k e=>.inr (r2.lt _ e).1⟩
theorem z5m (v:Value) (n base:Nat) (xs:List Value) (x:Nat) (w:World) (hx:x<18446744073709551616) (hown:w.ownsRow base 5 1 v n xs) (hbase:base≤w.heap.size) (hn:n≤140737488355000):
 Calls Tryz.prog 68 #[v,.int .u64 x] w fun e w'=>∃v',e=.returned v'∧w'.ownsRow base 5 1 v' (n+(jx x).length) (xs++u8s (jx x))∧Grw w w' v v':=by
 have hlen:=zhl 9 x;have hpos:=zjq 9 x;have Ho:=hid hown;clear hown;have Hx:=hid hx;clear hx;go_enter Tryz.func68,Tryz.ntmps68;go_wp2_with fail;refine(zmm x w Hx.out).mono ?_;rintro e w' ⟨rfl,rfl⟩;rw[zp7];generalize hL:(vbF 9 x).length=L at*;have HL:=hid hL;clear hL;go_wp2_with fail
 go_loopw [0,1,8] (fun u y i wr=>∃j m k:Nat,j+1≤L∧i=.int .i64 j∧y=.int .u64 m∧Hid (m<18446744073709551616)∧Hid (Grw w wr v u)∧base≤wr.heap.size∧j+(vbF k m).length=L∧
  Hid (∃p:List Nat,p.length=j∧vbF 9 x=p++vbF k m∧wr.ownsRow base 5 1 u (n+j) (xs++u8s p))) (fun _ _ i _=>L - (intOf i).toNat)
 case atStart=>exact⟨0,x,9,by omega,rfl,rfl,Hx.out,Grw.refl _ _,hbase,by rw[HL.out];omega,[],rfl,rfl,by have:=Ho.out;simpa [u8s] using this⟩
 case round=>
  obtain⟨j,m,k,hj,rfl,rfl,hm,hb,hbs,hjl,hp⟩:=hrel;by_cases hjL:j<L - 1
  · have hlt:decide ((j:Int)<(L:Int) - 1)=true:=by rw[decide_eq_true_iff];omega
    obtain⟨k',rfl,h128,hcons⟩:=zyv (k:=k) (x:=m) (by omega);obtain⟨p,hpl,hpx,hpo⟩:=hp.out;have Hpo:=hid hpo;clear hpo;have Hcons:=hid hcons;clear hcons;have Hjl:=hid hjl;clear hjl;have Hpl:=hid hpl;clear hpl;have Hpx:=hid hpx;clear hpx;have hbit:=zy1 m hm.out;have hq256:m % 128+128<256:=by omega
    generalize m % 128+128=q at*;obtain⟨v',w1,hr,ho1,hg1⟩:=zu3 base _ (n+j) _ (Hpo.out.alloc (.cells #[.int .u8 (q:Int)] 5)) wr.heap.size 1 q (by rw[World.cell?_alloc_mark];rfl) hq256 (Nat.le_refl _) (by omega) (by omega) (by simp only[World.size_alloc];omega);have Ho1:=hid ho1;clear ho1;have Hg:=hid ((hb.out.alloc _).trans hg1);have hs1:base≤w1.heap.size:=by have:=hg1.g.size;simp only[World.size_alloc] at this;omega
    clear hg1 Hpo hb;go_wp2_with (at_builtin;refine jf _ _ 27 rfl rfl _ _ rfl rfl _ _ hr ?_);clear hr;go_roundw
    case rel=>
     refine⟨j+1,m / 128,k',by omega,by go_num,by go_num,(by have:=hm.out;show m / 128<_;omega),Hg.out,hs1,?_,p++[q],?_,?_,?_⟩
     · have:=Hjl.out;rw[Hcons.out] at this;simp at this;omega
     · have:=Hpl.out;simp[this]
     · rw[Hpx.out,Hcons.out];simp
     · have:=Ho1.out;rw[List.append_assoc,←zf8] at this;exact this
    case measure=>simp[intOf];omega
  · have hge:decide ((j:Int)<(L:Int) - 1)=false:=by rw[decide_eq_false_iff_not];omega
    obtain⟨p,hpl,hpx,hpo⟩:=hp.out;have Hpo:=hid hpo;clear hpo;have h1:(vbF k m).length=1:=by have:=zjq k m;omega
    have e1:=zyw h1;have Hfin:=hid (show jx x=p++[m % 256] from by rw[zp7,hpx,e1]);have Hpl:=hid hpl;clear hpl hpx h1 e1;have Hjl:=hid hjl;clear hjl;have hq256:m % 256<256:=by omega
    have hmq:((m:Int) % 256)=((m % 256:Nat):Int):=by omega
    generalize m % 256=q at*;obtain⟨v',w1,hr,ho1,hg1⟩:=zu3 base _ (n+j) _ (Hpo.out.alloc (.cells #[.int .u8 (q:Int)] 5)) wr.heap.size 1 q (by rw[World.cell?_alloc_mark];rfl) hq256 (Nat.le_refl _) (by omega) (by omega) (by simp only[World.size_alloc];omega);have Ho1:=hid ho1;clear ho1;have Hg:=hid ((hb.out.alloc _).trans hg1);clear hg1 Hpo hb;go_wp2_with (at_builtin;refine jf _ _ 27 rfl rfl _ _ rfl rfl _ _ hr ?_);go_ret;refine⟨v',rfl,?_,Hg.out⟩;have h2:=Ho1.out;rw[List.append_assoc,←zf8] at h2;rw[Hfin.out];have h3:n+(p++[q]).length=n+j+1:=by have:=Hpl.out;simp[this];omega
    rw[h3];exact h2
theorem ze7 (base:Nat) (v:Value) (l:List Nat) (x:Nat) (w:World) (hx:x<18446744073709551616) (ho:OwnB w base v l) (hbase:base≤w.heap.size) (hn:l.length≤1000000000000):
 Calls Tryz.prog 68 #[v,.int .u64 x] w fun e w'=>∃v',e=.returned v'∧OwnB w' base v' (l++[x])∧Grw w w' v v':=by
 have h1:=zih l;refine(z5m v _ base _ x w hx ho hbase (by omega)).mono ?_;rintro e w' ⟨v',rfl,h2,h3⟩;refine⟨v',rfl,?_,h3⟩;unfold OwnB;rw[ztc,ztd,List.length_append,zf8];exact h2
structure Ready (w:World):Prop where
 door:Door w
 codes:Codes w
theorem Ready.below {w w':World} (h:Ready w) (hb:Below w.heap.size w w'):Ready w':=⟨h.door.below (Nat.le_refl _) hb,h.codes.below hb⟩
end
section
open Go.RowKit
attribute [local go_sem] vq
theorem zu4 (g:Nat) (L:zt) (nx V cu:Value) (s:PS) (k:Nat) (h:List Iv) (w:World) (hR:Row w g 280 (pkC L nx V s.ents k cu)) (he:0<s.ents) (he2:s.ents<18446744073709551616) (hk:k<18446744073709551616):
 Calls Tryz.prog 287 #[.pointer (some ⟨g,0,none⟩)] w fun e w'=>e=.returned (pkF g (vh s k h).tag)∧Row w' g 280 (pkC L nx V (vh s k h).ents (vh s k h).hls cu)∧w.grownBy w' (some g):=by
 obtain⟨tag,v,rep,mx,hh,ents,hls,lo⟩:=s;simp only at hR he he2;have q8:=hR.cell 8 rfl;have q9:=hR.cell 9 rfl;have z8:=hR.fz 8;have z9:=hR.fz 9;by_cases h0:0<k
 · have Hn:=hid (show vh ⟨tag,v,rep,mx,hh,ents,hls,lo⟩ k h=⟨4,v,rep,mx,h,ents,k - 1,lo⟩ from by unfold vh;rw[if_pos h0]);have e1:IntKind.u64.wrap ((k:Int) - 1)=((k - 1:Nat):Int):=by rw[IntKind.wrap_u64];omega
   have e2:(k:Int) - 1=((k - 1:Nat):Int):=by omega
   have HF:=hid (show Row (w.setCell ⟨g,9,none⟩ (.int .u64 ((k - 1:Nat):Int))) g 280 (pkC L nx V ents (k - 1) cu) from hR.set 9 _);rw[Hn.out];clear hR q8 z8 he he2;generalize k - 1=k1 at*;go_enter Tryz.func287,Tryz.ntmps287;go_wp2_with fail;go_ret;exact⟨rfl,HF.out,za7 _ _ _ _⟩
 · obtain rfl:k=0:=by omega
   have e1:IntKind.u64.wrap ((ents - 1:Nat):Int)=((ents - 1:Nat):Int):=by rw[IntKind.wrap_u64];omega
   have e2:(ents:Int) - 1=((ents - 1:Nat):Int):=by omega
   have HF:=hid (show Row (w.setCell ⟨g,8,none⟩ (.int .u64 ((ents - 1:Nat):Int))) g 280 (pkC L nx V (ents - 1) 0 cu) from hR.set 8 _);by_cases h1:1<ents
   · have Hn:=hid (show vh ⟨tag,v,rep,mx,hh,ents,hls,lo⟩ 0 h=⟨1,v++[(rep,mx,h)],rep,mx,[],ents - 1,0,lo⟩ from by unfold vh;rw[if_neg (by omega),if_pos h1]);have h2:0<ents - 1:=by omega
     rw[Hn.out];clear hR he he2 h1;generalize ents - 1=e at*;go_enter Tryz.func287,Tryz.ntmps287;go_wp2_with fail;go_ret;exact⟨rfl,HF.out,za7 _ _ _ _⟩
   · obtain rfl:ents=1:=by omega
     have Hn:=hid (show vh ⟨tag,v,rep,mx,hh,1,hls,lo⟩ 0 h=⟨6,v++[(rep,mx,h)],rep,mx,[],0,0,lo⟩ from by unfold vh;rw[if_neg (by omega),if_neg (by omega)];rfl);rw[Hn.out];clear hR he he2 h1 e1 e2;go_enter Tryz.func287,Tryz.ntmps287;go_wp2_with fail;go_ret;exact⟨rfl,HF.out,za7 _ _ _ _⟩
theorem zu5 {w:World} {base:Nat} {s:PS} {V cu:Value} {k:Nat} {h:List Iv} (hE:EntO w base V s.v s.rep s.mx h) (hC:CuAt w base cu none h) (hl:zq h):PkB w base (vh s k h) V cu:=by
 unfold vh;split
 · exact⟨hE,hC⟩
 · split
   · exact hE.close hl
   · exact hE.close hl
set_option maxRecDepth 20000 in
theorem z5n (base g:Nat) (L:zt) (nx:Value) (s:PS) (x rest:Nat) (w:World) (h:PkR w base g L nx s) (ht:s.tag=3) (hL:LimsI L) (hx:x<18446744073709551616) (hr:rest<9223372036854775808) (he:0<s.ents) (he2:s.ents<18446744073709551616):
 Calls Tryz.prog 271 #[.pointer (some ⟨g,0,none⟩),.int .u64 (x:Int),.int .i64 (rest:Int)] w (PkS w base g L (qb L.2.2.1 L.2.2.2.1 s x rest)):=by
 have hps:qb L.2.2.1 L.2.2.2.1 s x rest=if yz x L.2.2.2.1 rest≠0 then .error (yz x L.2.2.2.1 rest) else .ok (vh s x []):=by
  unfold qb;rw[ht];rfl
 rw[hps];clear hps;obtain⟨hg,V,cu,hR,hB⟩:=h;have hE:EntO w base V s.v s.rep s.mx []:=by unfold PkB at hB;rw[ht] at hB;exact hB
 have HL:=hid (zu0 x L.2.2.2.1 rest w hx hL.d hr);have q3:=hR.cell 3 rfl;have HR:=hid hR;have Hg:=hid (show base≤w.heap.size by have:=hR.lt;omega);clear hB;by_cases hc:yz x L.2.2.2.1 rest=0
 · rw[hc] at HL;rw[if_neg (fun h=>h hc)];have HE:=hid hE;have HX:=hid hx;have He:=hid he;have He2:=hid he2;clear hc hx hr hR hE he he2 ht;go_enter Tryz.func271,Tryz.ntmps271;go_wp2_with fail;refine HL.out.mono ?_;rintro e w' ⟨rfl,rfl⟩;simp only[zg2,if_true];go_wp2_with fail;refine(ztz 1 w).mono ?_;rintro e w1 ⟨rfl,hc1,hb1⟩;have h1:=HR.out.later hb1;have p9:=h1.cell 9 rfl;have p10:=h1.cell 10 rfl;have z9:=h1.fz 9;have z10:=h1.fz 10;have h2:Row ((w1.setCell ⟨g,9,none⟩ (.int .u64 (x:Int))).setCell ⟨g,10,none⟩ (.pointer (some ⟨w.heap.size,0,none⟩))) g 280 (pkC L nx V s.ents x (.pointer (some ⟨w.heap.size,0,none⟩))):=(h1.set 9 _).set 10 _;have hgr:w1.grownBy ((w1.setCell ⟨g,9,none⟩ (.int .u64 (x:Int))).setCell ⟨g,10,none⟩ (.pointer (some ⟨w.heap.size,0,none⟩))) (some g):=za8 (a:=⟨g,10,none⟩) (za8 (a:=⟨g,9,none⟩) (zgl _ _) _ (.inr rfl)) _ (.inr rfl);have HC:=hid (hc1.grown hgr (fun e=>by injection e with e;have:=HR.out.lt;omega));have HE2:=hid ((HE.out.later hb1).grown (h1.notT (by rintro(h | h | h) <;> cases h)) hgr);have HH:=hid (zu4 g L nx V (.pointer (some ⟨w.heap.size,0,none⟩)) s x [] _ h2 He.out He2.out HX.out);have HR2:=hid h2;have Hb:=hid (((hb1.mono Hg.out).setCell (p:=⟨g,9,none⟩) hg (.int .u64 (x:Int))).setCell (p:=⟨g,10,none⟩) hg (.pointer (some ⟨w.heap.size,0,none⟩)));clear h1 h2 hgr hc1 hb1 q3;go_wp2_with fail;refine HH.out.mono ?_;rintro e w4 ⟨rfl,hR4,hg4⟩;have HR4:=hid hR4;have hN:=HR2.out.notT (by rintro(h | h | h) <;> cases h);have HE4:=hid (HE2.out.grown hN hg4);have HC4:=hid (HC.out.grown hg4 (fun e=>by injection e with e;have:=HR.out.lt;omega));have Hb4:=hid (Hb.out.grown hg4 (by have:=Hb.out.size;have:=Hg.out;omega) (fun k hk=>by injection hk with hk;omega));clear hR4 hN hg4;generalize hnh:vh s x []=s' at*;have Hnh:=hid hnh;clear hnh;generalize hF:pkF g s'.tag=F at*;have HF:=hid hF;clear hF;go_wp2_with fail;go_ret2;refine⟨Hb4.out,nx,by rw[HF.out];rfl,hg,V,_,HR4.out,?_⟩;rw[←Hnh.out];exact zu5 HE4.out ⟨w.heap.size,0,rfl,Hg.out,fun y h=>(by cases h),HC4.out⟩ (fun t h=>(by cases h))
 · rw[if_pos hc];have hcv:zg2 (yz x L.2.2.2.1 rest)=.iface 34 (.int .i64 ((yz x L.2.2.2.1 rest:Nat):Int)):=if_neg hc;rw[hcv] at HL;clear hc hx hr hR hcv hE he he2 ht;generalize yz x L.2.2.2.1 rest=c at*;go_enter Tryz.func271,Tryz.ntmps271;go_wp2_with fail;refine HL.out.mono ?_;rintro e w' ⟨rfl,rfl⟩;go_wp2_with fail;go_ret2;exact⟨Below.refl _ _,rfl,_,HR.out,rfl⟩
set_option maxRecDepth 20000 in
theorem z5o (base g:Nat) (L:zt) (nx:Value) (s:PS) (x rest:Nat) (w:World) (h:PkR w base g L nx s) (ht:s.tag=4) (hx:x<18446744073709551616) (hl:zq s.h):
 Calls Tryz.prog 295 #[.pointer (some ⟨g,0,none⟩),.int .u64 (x:Int),.int .i64 (rest:Int)] w (PkS w base g L (qb L.2.2.1 L.2.2.2.1 s x rest)):=by
 obtain⟨tag,v,rep,mx,hh,ents,hls,lo⟩:=s;simp only at ht hl;subst ht;obtain⟨hg,V,cu,hR,hB⟩:=h;obtain⟨hE,c,y,rfl,hbc,-,hC⟩:EntO w base V v rep mx hh∧CuAt w base cu none hh:=hB;have hps:qb L.2.2.1 L.2.2.2.1 ⟨4,v,rep,mx,hh,ents,hls,lo⟩ x rest=match loP (jv hh) 1 x with | none=>.error 8 | some z=>.ok ⟨5,v,rep,mx,hh,ents,hls,z⟩:=rfl
 rw[hps];clear hps;have HL:=hid (zof c 1 y x hh.getLast? w hC (fun s hs=>(hl s (List.mem_of_getLast? hs)).2) (by omega) hx);have q10:=hR.cell 10 rfl;have HR:=hid hR;have HE:=hid hE;have HC:=hid hC;have Hne:=hid (hR.ne hC (by decide));have Hbw:=hid (show base≤w.heap.size by have:=hR.lt;omega);clear hR hE hC hx hl;unfold jv
 cases hlo:loP (hh.getLast?.map (·.2)) 1 x with
 | none=>
  rw[hlo] at HL;clear hlo;go_enter Tryz.func295,Tryz.ntmps295;go_wp2_with fail;refine HL.out.mono ?_;rintro e w1 ⟨rfl,hc1,hg1⟩;have HR1:=hid (HR.out.grown hg1 (fun e=>Hne.out (by injection e)));have Hb:=hid ((Below.refl base w).grown hg1 Hbw.out (fun k hk=>by injection hk with hk;omega));clear hc1 hg1;go_wp2_with fail;go_ret2
  exact⟨Hb.out,rfl,_,HR1.out,rfl⟩
 | some z=>
  rw[hlo] at HL;clear hlo;go_enter Tryz.func295,Tryz.ntmps295;go_wp2_with fail;refine HL.out.mono ?_;rintro e w1 ⟨rfl,hc1,hg1⟩;have HR1:=hid (HR.out.grown hg1 (fun e=>Hne.out (by injection e)));have Hb:=hid ((Below.refl base w).grown hg1 Hbw.out (fun k hk=>by injection hk with hk;omega));have HE1:=hid (HE.out.grown (HC.out.notT (by rintro(h | h | h) <;> cases h)) hg1);have HC1:=hid hc1;clear hc1 hg1;go_wp2_with fail;go_ret2;exact⟨Hb.out,nx,rfl,hg,V,_,HR1.out,HE1.out,c,z,rfl,hbc,fun y h=>(by injection h),HC1.out⟩
end
section
open Go.RowKit
attribute [local go_sem] vq
theorem z5p (L:zt) (w:World):Calls Tryz.prog 146 #[lmV L] w fun e w'=>e=.returned (.pointer (some ⟨w.heap.size+1,0,none⟩))∧PkR w' w.heap.size (w.heap.size+1) L (pkF (w.heap.size+1) 0) ps0∧Below w.heap.size w w':=by
 unfold lmV;go_enter Tryz.func146,Tryz.ntmps146;go_wp2_with fail;go_ret;refine⟨rfl,⟨by omega,.slice none 0 0,.pointer none,?_,rfl⟩,((Below.refl _ _).alloc (Nat.le_refl _) _).alloc (by simp) _⟩;have:=zcd (w.alloc (.cells #[.int .i64 L.1,.int .i64 L.2.1,.int .i64 L.2.2.1,.int .i64 L.2.2.2.1,.int .i64 L.2.2.2.2] 42)) 280 (pkC L (pkF (w.heap.size+1) 0) (.slice none 0 0) 0 0 (.pointer none));rw[World.size_alloc] at this;exact this
theorem zlj (g ge n cap:Nat) (w:World) (hq:w.cell? ⟨g,7,none⟩=some (.slice (some ⟨ge,0,none⟩) (n+1) cap)) (hn:n≤1000000000000):
 Calls Tryz.prog 270 #[.pointer (some ⟨g,0,none⟩)] w fun e w'=>e=.returned (.pointer (some ⟨ge,n*3,none⟩))∧∃k,w'=w.drewN k:=by
 go_enter Tryz.func270,Tryz.ntmps270;go_wp2;go_quiet (fail);go_wp2;go_ret;exact⟨rfl,_,rfl⟩
set_option maxRecDepth 20000 in
theorem z5q (base g:Nat) (L:zt) (nx:Value) (s:PS) (x rest:Nat) (w:World) (h:PkR w base g L nx s) (ht:s.tag=0) (hL:LimsI L) (hx:x<18446744073709551616) (hr:rest<9223372036854775808):
 Calls Tryz.prog 190 #[.pointer (some ⟨g,0,none⟩),.int .u64 (x:Int),.int .i64 (rest:Int)] w (PkS w base g L (qb L.2.2.1 L.2.2.2.1 s x rest)):=by
 obtain⟨tag,v,rep,mx,hh,ents,hls,lo⟩:=s;simp only at ht;subst ht;obtain⟨hg,V,cu,hR,hB⟩:=h;have hV:V=.slice none 0 0:=hB;subst hV;have HL:=hid (zu0 x L.2.2.1 rest w hx hL.c hr);have q2:=hR.cell 2 rfl;have q8:=hR.cell 8 rfl;have z8:=hR.fz 8;have HR:=hid hR;have Hg:=hid (show base≤w.heap.size by have:=hR.lt;omega);clear hB;by_cases hc:yz x L.2.2.1 rest=0
 · rw[hc] at HL;have Hc:=hid hc;clear hc hx hr;by_cases hx0:x=0
   · subst hx0
     have Hp:=hid (show qb L.2.2.1 L.2.2.2.1 ⟨0,v,rep,mx,hh,ents,hls,lo⟩ 0 rest=.error 9 from by
      show (if yz 0 L.2.2.1 rest≠0 then _ else _)=_;rw[if_neg (fun h=>h Hc.out),if_pos rfl])
     rw[Hp.out];clear hR;go_enter Tryz.func190,Tryz.ntmps190;go_wp2_with fail;refine HL.out.mono ?_;rintro e w' ⟨rfl,rfl⟩;simp only[zg2,if_true];go_wp2_with fail;go_ret2;exact⟨Below.refl _ _,rfl,_,HR.out,rfl⟩
   · have Hp:=hid (show qb L.2.2.1 L.2.2.2.1 ⟨0,v,rep,mx,hh,ents,hls,lo⟩ x rest=.ok ⟨1,[],rep,mx,hh,x,hls,lo⟩ from by
      show (if yz x L.2.2.1 rest≠0 then _ else _)=_;rw[if_neg (fun h=>h Hc.out),if_neg hx0])
     rw[Hp.out];have HS:=hid (show Row (w.setCell ⟨g,8,none⟩ (.int .u64 (x:Int))) g 280 (pkC L nx (.slice none 0 0) x hls cu) from hR.set 8 _);clear hR;go_enter Tryz.func190,Tryz.ntmps190;go_wp2_with fail;refine HL.out.mono ?_;rintro e w' ⟨rfl,rfl⟩;simp only[zg2,if_true];go_wp2_with fail;go_ret2;exact⟨(Below.refl _ _).setCell (p:=⟨g,8,none⟩) hg _,nx,rfl,hg,_,cu,HS.out,zhy _ _⟩
 · have Hp:=hid (show qb L.2.2.1 L.2.2.2.1 ⟨0,v,rep,mx,hh,ents,hls,lo⟩ x rest=.error (yz x L.2.2.1 rest) from by
    show (if yz x L.2.2.1 rest≠0 then _ else _)=_;rw[if_pos hc])
   rw[Hp.out];have hcv:zg2 (yz x L.2.2.1 rest)=.iface 34 (.int .i64 ((yz x L.2.2.1 rest:Nat):Int)):=if_neg hc;rw[hcv] at HL;clear hc hx hr hR hcv;generalize yz x L.2.2.1 rest=c at*;go_enter Tryz.func190,Tryz.ntmps190;go_wp2_with fail;refine HL.out.mono ?_;rintro e w' ⟨rfl,rfl⟩;go_wp2_with fail;go_ret2;exact⟨Below.refl _ _,rfl,_,HR.out,rfl⟩
set_option maxRecDepth 20000 in
theorem z5r (base g:Nat) (L:zt) (nx:Value) (s:PS) (x rest:Nat) (w:World) (h:PkR w base g L nx s) (ht:s.tag=2) (hl:s.v.length≤1000000000000):
 Calls Tryz.prog 261 #[.pointer (some ⟨g,0,none⟩),.int .u64 (x:Int),.int .i64 (rest:Int)] w (PkS w base g L (qb L.2.2.1 L.2.2.2.1 s x rest)):=by
 obtain⟨tag,v,rep,mx,hh,ents,hls,lo⟩:=s;simp only at ht hl;subst ht;obtain⟨hg,V,cu,hR,hB⟩:=h;have hE:EntO w base V v rep 0 []:=hB;obtain⟨ge,cap,rfl,hge,hgl,⟨C,fr,hrow⟩,c0,c1,hf,-⟩:=hE.at
 have HE:=hid (fun k=>(hE.later (ye (Below.refl _ _) k)).max x);have q7:=hR.cell 7 rfl;have HP:=hid (zlj g ge v.length cap w q7 hl);have HR:=hid hR
 have Hne:=hid (show g≠ge from fun e=>by
  subst e;unfold Row at hR;rw[hrow] at hR;injection hR with hR;injection hR with _ hR _;cases hR)
 have Hp:=hid (show qb L.2.2.1 L.2.2.2.1 ⟨2,v,rep,mx,hh,ents,hls,lo⟩ x rest=.ok ⟨3,v,rep,x,hh,ents,hls,lo⟩ from rfl);rw[Hp.out];have c1':∀k,(w.drewN k).cell? ⟨ge,v.length*3+1,none⟩=some (.int .u64 0):=fun k=>c1
 have f1:∀k,(w.drewN k).frozen? ⟨ge,v.length*3+1,none⟩=false:=fun k=>hf _
 clear hE hB hrow c0 c1 hf hR q7;go_enter Tryz.func261,Tryz.ntmps261;go_wp2_with fail;refine HP.out.mono ?_;rintro e w' ⟨rfl,k,rfl⟩;go_wp2_with fail;go_ret2;exact⟨(show Below base w (w.drewN k) from ye (Below.refl _ _) k).setCell (p:=⟨ge,v.length*3+1,none⟩) hge _,nx,rfl,hg,_,cu,(show Row (w.drewN k) _ _ _ from HR.out).other (a:=⟨ge,v.length*3+1,none⟩) Hne.out _,HE.out k⟩
end
section
open Go.RowKit
attribute [local go_sem] vq
def wkC (L:zt) (part K:Value) (U C:Nat) (err:Value):List Value:=
 [.int .i64 L.1,.int .i64 L.2.1,.int .i64 L.2.2.1,.int .i64 L.2.2.2.1,.int .i64 L.2.2.2.2,part,K,.map (some U),.pointer (some ⟨C,0,none⟩),err]
def zf0:Value:=.iface 124 (.agg #[])
def vcC (left:Nat) (frm:Int) (ip:Value):List Value:=[.int .u64 (left:Int),.int .i64 frm,ip]
def sgC (left turn:Nat) (last:Int) (touch:Bool):List Value:=[.int .u64 (left:Int),.int .i64 (turn:Int),.int .i64 last,.bool touch]
def VecAt (w:World) (base R:Nat) (L:zt) (K:Value) (U C B:Nat) (s:WS):Prop:=
 (s.inner=ps0∧(∃ip,Row w B 189 (vcC s.left (-1) ip))∧KV w base K s.vs)∨
 (1≤s.inner.tag∧∃P pb wb,Row w B 189 (vcC s.left (s.frm:Int) (.pointer (some ⟨P,0,none⟩)))∧KV wb base K s.vs∧Steady 0 zc6 wb w∧wb.heap.size≤pb∧base≤pb∧R<pb∧U<pb∧C<pb∧B<pb∧PkR w pb P L (pkF P s.inner.tag) s.inner)
def cuC (C lo0:Nat) (s:WS):List Value:=match s.turn with | 0=>jw C 0 lo0 s.l.getLast? false | 1=>jw C 0 s.lo s.l.getLast? true | _=>jw C 0 lo0 (some (s.lo,s.hi)) false
def z5s (w:World) (C B:Nat) (s:WS):Prop:=
 ∃(last:Int) (touch:Bool) (lo0:Nat),Row w B 194 (sgC s.left s.turn last touch)∧(∀x,s.ix.getLast?=some x→last=(x:Int))∧(1≤s.turn→touch=s.tch)∧
  Row w C 183 (cuC C lo0 s)
def WkB (w:World) (base R:Nat) (L:zt) (s:WS) (part K:Value) (U C:Nat):Prop:=
 match s.tag with
 | 0=>part=.iface 116 (.agg #[])∧KV w base K s.vs∧Row w C 183 (jw C 0 0 none false)
 | 1=>∃B,part=.iface 186 (.pointer (some ⟨B,0,none⟩))∧base≤B∧Row w C 183 (jw C 0 0 none false)∧VecAt w base R L K U C B s
 | 2=>part=.iface 190 (.agg #[])∧KV w base K s.vs∧Row w C 183 (jw C 0 0 none false)
 | 3=>∃B,part=.iface 192 (.pointer (some ⟨B,0,none⟩))∧base≤B∧SegM w base K s.vs s.l s.ix∧z5s w C B s
 | _=>part=zf0∧SegM w base K s.vs s.l s.ix
def WkR (w:World) (base R:Nat) (L:zt) (s:WS):Prop:=
 base≤R∧∃part K U C,base≤U∧base≤C∧Row w R 123 (wkC L part K U C .nilIface)∧UsedM w U s.ix∧WkB w base R L s part K U C
def za0 (c o:Nat):Value:=.iface 94 (.agg #[.int .i64 (c:Int),.int .i64 (o:Int)])
theorem z5t {c o:Nat} (h:c≠0):yl (zgc (c:Int) (o:Int))=za0 c o:=by
 unfold zgc;rw[if_neg (by omega)]
 rfl
def WkS (w:World) (base R:Nat) (L:zt) (r:Except (Nat×Nat) WS) (e:Ending) (w':World):Prop:=
 Below base w w'∧match r with
 | .error x=>e=.returned (za0 x.1 x.2)∧∃C,Row w' R 123 C∧C.length=10
 | .ok s'=>e=.returned .nilIface∧WkR w' base R L s'
theorem zb7 {c o:Nat} (h:c≠0) (w:World):Calls Tryz.prog 49 #[.int .i64 (c:Int),.int .i64 (o:Int)] w fun e w'=>e=.returned (za0 c o)∧w=w':=
 (zaf (c:Int) (o:Int) w).mono fun e w' ⟨h1,h2⟩=>⟨by rw[h1,z5t h],h2⟩
theorem zu6 (x:Nat) (lim:Int) (rest:Nat) (w:World) (hx:x<18446744073709551616) (hl:I64 lim) (hr:rest<9223372036854775808):
 Calls Tryz.prog 112 #[.int .u64 (x:Int),.int .i64 lim,.int .i64 (rest:Int)] w fun e w'=>e=.returned (.int .i64 ((yz x lim rest:Nat):Int))∧w=w':=by
 have hc:=zuz x lim rest;obtain⟨l1,l2⟩:=hl;generalize yz x lim rest=c at*;have Hx:=hid hx;clear hx;by_cases hneg:lim<0
 · have e0:max lim 0=0:=by omega
   rw[e0] at hc;clear e0;rcases hc with ⟨h1,rfl⟩ | ⟨h1,h2,rfl⟩ | ⟨h1,h2,rfl⟩
   · have h1':0<x:=by omega
     clear h1;go_enter Tryz.func112,Tryz.ntmps112;go_wp2_with fail;go_ret;exact⟨rfl,rfl⟩
   · have h1':x=0:=by omega
     omega
   · obtain rfl:x=0:=by omega
     go_enter Tryz.func112,Tryz.ntmps112;go_wp2_with fail;go_ret;exact⟨rfl,rfl⟩
 · obtain⟨m,rfl⟩:=Int.eq_ofNat_of_zero_le (show 0≤lim by omega);have e0:max (m:Int) 0=(m:Int):=by omega
   rw[e0] at hc;clear e0;rcases hc with ⟨h1,rfl⟩ | ⟨h1,h2,rfl⟩ | ⟨h1,h2,rfl⟩
   · have h1':m<x:=by omega
     clear h1;go_enter Tryz.func112,Tryz.ntmps112;go_wp2_with fail;go_ret;exact⟨rfl,rfl⟩
   · have h1':¬m<x:=by omega
     clear h1;go_enter Tryz.func112,Tryz.ntmps112;go_wp2_with fail;go_ret;exact⟨rfl,rfl⟩
   · have h1':¬m<x:=by omega
     clear h1;go_enter Tryz.func112,Tryz.ntmps112;go_wp2_with fail;go_ret;exact⟨rfl,rfl⟩
set_option maxRecDepth 20000 in
theorem zu7 (base R:Nat) (L:zt) (s:WS) (part K:Value) (U C E next:Nat) (w:World) (hR0:base≤R) (hU:base≤U) (hC:base≤C) (hR:Row w R 123 (wkC L part K U C .nilIface)) (hu:UsedM w U s.ix) (hK:SegM w base K s.vs s.l s.ix)
 (hli:s.ix.length=s.l.length) (hix:∀i∈s.ix,i<s.vs.length) (hE:E<9000000000000000000) (hn:next≤E):
 Calls Tryz.prog 114 #[.pointer (some ⟨R,0,none⟩),.int .i64 (next:Int),.int .i64 ((E - next:Nat):Int)] w (WkS w base R L (k9 E s next)):=by
 obtain⟨ka,kc,rfl⟩:=hK.len;have hgr:=za7 w R 5 zf0;have hN:=hR.notT (by rintro(h | h | h) <;> cases h);have HR:=hid (show Row (w.setCell ⟨R,5,none⟩ zf0) R 123 (wkC L zf0 (.slice ka s.vs.length kc) U C .nilIface) from hR.set 5 _);have HK:=hid (hK.grown hN hgr);have HU:=hid (hu.same (hgr.block U hu.lt (fun e=>by injection e with e;exact hu.ne (show w.heap[R]?=_ from hR) e)));have q5:=hR.cell 5 rfl;have z5:=hR.fz 5;have hc:=z2r (vs:=s.vs) hli;have Hb:=hid ((Below.refl base w).setCell (p:=⟨R,5,none⟩) hR0 zf0);have Hix:=hid hix
 have hvl:s.vs.length≤9223372036854775807:=by
  obtain⟨_,X,Y,h1,h2,h3,h4,-⟩:=hK;rcases h4.2 with ⟨h',-⟩ | ⟨g,cap,cur,h',hg,hh,hnc,hcm,_⟩
  · injection h' with _ h' _;omega
  · unfold maxLen at hcm;omega
 unfold k9;simp only[hc];clear hR hu hK hgr hN hc hix hli;unfold zf0 at HR HK HU Hb;obtain⟨N,hN⟩:∃N,N=s.vs.length:=⟨_,rfl⟩;rw[←hN] at hvl HR HK Hix ⊢;have Hn:=hid hN;have hul:=zoa s.ix N;clear hN;by_cases h1:kk s.ix N<N
 · rw[if_pos h1];have HN:=hid (fun W=>zb7 (c:=10) (o:=next) (by decide) W);have hl:=fun k ty=>((HU.out.same (w':=(w.setCell ⟨R,5,none⟩ (.iface 124 (.agg #[]))).drewN k) rfl).len N Hix.out ty)
   have hd1:decide ((kk s.ix N:Int)<(N:Int))=true:=by rw[decide_eq_true_iff];omega
   have hd2:decide (kk s.ix N<N)=true:=by rw[decide_eq_true_iff];omega
   have q6:=fun k=>(show Row ((w.setCell ⟨R,5,none⟩ (.iface 124 (.agg #[]))).drewN k) R 123 _ from HR.out).cell 6 rfl
   have q7:=fun k=>(show Row ((w.setCell ⟨R,5,none⟩ (.iface 124 (.agg #[]))).drewN k) R 123 _ from HR.out).cell 7 rfl
   clear hul h1;generalize kk s.ix N=u at*;go_enter Tryz.func114,Tryz.ntmps114;go_wp2;generalize w.setCell ⟨R,5,none⟩ (.iface 124 (.agg #[]))=w1 at*;go_quiet (fail);go_wp2_with fail;refine(HN.out _).mono ?_;rintro e w' ⟨rfl,rfl⟩;go_wp2_with fail;go_ret;exact⟨ye Hb.out _,rfl,_,HR.out,rfl⟩
 · rw[if_neg h1];have hl:=fun k ty=>((HU.out.same (w':=(w.setCell ⟨R,5,none⟩ (.iface 124 (.agg #[]))).drewN k) rfl).len N Hix.out ty)
   have hd1:decide ((kk s.ix N:Int)<(N:Int))=false:=by rw[decide_eq_false_iff_not];omega
   have hd2:decide (kk s.ix N<N)=false:=by rw[decide_eq_false_iff_not];omega
   have q6:=fun k=>(show Row ((w.setCell ⟨R,5,none⟩ (.iface 124 (.agg #[]))).drewN k) R 123 _ from HR.out).cell 6 rfl
   have q7:=fun k=>(show Row ((w.setCell ⟨R,5,none⟩ (.iface 124 (.agg #[]))).drewN k) R 123 _ from HR.out).cell 7 rfl
   clear hul h1;generalize kk s.ix N=u at*;by_cases h2:next<E
   · rw[if_pos h2];have h3:0<E - next:=by omega
     have HN:=hid (fun W=>zb7 (c:=11) (o:=next) (by decide) W);clear h2 hE hn;generalize E - next=d at*
     go_enter Tryz.func114,Tryz.ntmps114;go_wp2;generalize w.setCell ⟨R,5,none⟩ (.iface 124 (.agg #[]))=w1 at*;go_quiet (fail);go_wp2_with fail;refine(HN.out _).mono ?_;rintro e w' ⟨rfl,rfl⟩;go_wp2_with fail;go_ret;exact⟨ye Hb.out _,rfl,_,HR.out,rfl⟩
   · obtain rfl:next=E:=by omega
     rw[if_neg h2,Nat.sub_self];clear h2 hE hn;go_enter Tryz.func114,Tryz.ntmps114;go_wp2;generalize w.setCell ⟨R,5,none⟩ (.iface 124 (.agg #[]))=w1 at*;go_quiet (fail);go_wp2_with fail;go_ret;exact⟨ye Hb.out _,rfl,hR0,_,_,U,C,hU,hC,HR.out,HU.out.same rfl,rfl,HK.out.later (ye (Below.refl _ _) _)⟩
end
section
open Go.RowKit
attribute [local go_sem] vq
theorem zu8 {W:World} {base g:Nat} {L:zt} {nx V cu:Value} {e h:Nat} {v:Vec} (hV:OwnV W base V v) (hR:Row W g 280 (pkC L nx V e h cu)) (hg:base≤g) (r:Nat) (hb:v.length+1≤1000000000000):
 ∃ge cp w',(Builtin.append_ #[83,83] 83 #[V,.slice (some ⟨W.heap.size,0,none⟩) 1 1]).run Tryz.prog (W.alloc (.cells #[.int .u64 ((r:Nat):Int),.int .u64 0,.slice none 0 0] 101))=.ok (.slice (some ⟨ge,0,none⟩) (v.length+1) cp) w'∧
  w'.cell? ⟨g,7,none⟩=some V∧w'.frozen? ⟨g,7,none⟩=false∧Below base W (w'.setCell ⟨g,7,none⟩ (.slice (some ⟨ge,0,none⟩) (v.length+1) cp))∧Row (w'.setCell ⟨g,7,none⟩ (.slice (some ⟨ge,0,none⟩) (v.length+1) cp)) g 280 (pkC L nx (.slice (some ⟨ge,0,none⟩) (v.length+1) cp) e h cu)∧EntO (w'.setCell ⟨g,7,none⟩ (.slice (some ⟨ge,0,none⟩) (v.length+1) cp)) base (.slice (some ⟨ge,0,none⟩) (v.length+1) cp) v r 0 []:=by
 have hal:Below W.heap.size W (W.alloc (.cells #[.int .u64 ((r:Nat):Int),.int .u64 0,.slice none 0 0] 101)):=(Below.refl _ _).alloc (Nat.le_refl _) _;have hbW:base≤W.heap.size:=by have:=hR.lt;omega
 obtain⟨V',w',hrun,hE,hgr,hk⟩:=(hV.below hal).open r (some ⟨W.heap.size,0,none⟩) 1 (yg (zg W (.cells #[.int .u64 ((r:Nat):Int),.int .u64 0,.slice none 0 0] 101) _ rfl) rfl rfl) hb (Nat.le_trans hbW hal.size)
 obtain⟨ge,cp,rfl,-⟩:=hE.at
 have hR1:=hR.later hal;obtain⟨ss,ho,-⟩:=hV.below hal;have hR2:Row w' g 280 (pkC L nx V e h cu):=hR1.grown hgr fun e'=>hR1.ne_own ho (by decide) g e'.symm rfl
 refine⟨ge,cp,w',hrun,hR2.cell 7 rfl,hR2.fz 7,?_,hR2.set 7 _,hE.grown (hR2.notT (by rintro(h | h | h) <;> cases h)) (za7 _ _ _ _)⟩;exact(Below.grown (hal.mono hbW) hgr (Nat.le_trans hbW hal.size) hk).setCell (p:=⟨g,7,none⟩) hg _
theorem z5u (x:Nat):zay [] x=some x:=rfl
theorem z5v {v:Vec} (h:0<v.length) (x:Nat):zay v x=if (zc v (v.length - 1)).1+1+x<18446744073709551616 then some ((zc v (v.length - 1)).1+1+x) else none:=by
 unfold zay;have hne:v≠[]:=fun e=>by rw[e] at h;cases h
 rw[List.getLast?_eq_getElem?,List.getElem?_eq_getElem (by omega),qn (by omega)]
set_option maxRecDepth 20000 in
theorem z5w (base g:Nat) (L:zt) (nx:Value) (s:PS) (x rest:Nat) (w:World) (h:PkR w base g L nx s) (ht:s.tag=1) (hx:x<18446744073709551616) (hlv:LtV s.v) (hl:s.v.length+1≤1000000000000):
 Calls Tryz.prog 234 #[.pointer (some ⟨g,0,none⟩),.int .u64 (x:Int),.int .i64 (rest:Int)] w (PkS w base g L (qb L.2.2.1 L.2.2.2.1 s x rest)):=by
 obtain⟨tag,v,rep,mx,hh,ents,hls,lo⟩:=s;simp only at ht hl hlv;subst ht;obtain⟨hg,V,cu,hR,hB⟩:=h;have hV:OwnV w base V v:=hB;have hps:qb L.2.2.1 L.2.2.2.1 ⟨1,v,rep,mx,hh,ents,hls,lo⟩ x rest=match zay v x with | none=>.error 8 | some r=>.ok ⟨2,v,r,mx,hh,ents,hls,lo⟩:=rfl
 rw[hps];clear hps hB;by_cases h0:v=[]
 · subst h0;obtain⟨a,c,rfl,-⟩:=hV.ents hlv;obtain⟨ge,cp,w',hrun,c7,f7,hb,hR',hE⟩:=zu8 hV hR hg x hl;have q7:=hR.cell 7 rfl;rw[z5u];have Hrun:=hid hrun;have HR:=hid hR';have HE:=hid hE;have Hb:=hid hb;clear hV hR hrun hR' hE hb hl hx hlv;simp only[List.length_nil] at*;go_enter Tryz.func234,Tryz.ntmps234;go_wp2_with (at_builtin;refine jf _ _ 83 rfl rfl _ _ rfl rfl _ _ Hrun.out ?_);go_ret2;exact⟨Hb.out,nx,rfl,hg,_,cu,HR.out,HE.out⟩
 · have hpos:0<v.length:=List.length_pos_iff.2 h0;obtain⟨a,c,rfl,hEn⟩:=hV.ents hlv;obtain⟨b,o,rfl,hcells⟩:=hEn.cells hpos;have hi:v.length - 1<v.length:=by omega
   have qe:=(hcells _ hi).1;have hrep:=(hlv _ (jb hi)).rep;rw[z5v hpos];generalize (zc v (v.length - 1)).1=y at*;have q7:=hR.cell 7 rfl
   have h64:∀z∈[y,1,x],z<18446744073709551616:=fun z hz=>by
    simp only[List.mem_cons,List.not_mem_nil,or_false] at hz;rcases hz with rfl | rfl | rfl <;> first | assumption | omega
   have H64:=hid h64;have hsum:[y,1,x].sum=y+1+x:=by simp only[List.sum_cons,List.sum_nil,Nat.add_zero,Nat.add_assoc]
   obtain⟨n,hn⟩:∃n,n=v.length:=⟨_,rfl⟩;have Hn:=hid hn;have HV:=hid hV;have HR:=hid hR;have Hl:=hid hl;have hn1:1≤n∧n≤1000000000000:=by omega
   rw[←hn] at qe q7;clear hcells hEn hi hrep h64 h0 hpos hx hlv hV hR hl hn;have e1:(n:Int) - 1=((n - 1:Nat):Int):=by omega
   by_cases hc:y+1+x<18446744073709551616
   · have hv:zbt [y,1,x].sum=.tuple #[.int .u64 ((y+1+x:Nat):Int),.bool true]:=by rw[hsum];exact zim hc
     have HS:=hid (fun W hW=>zgx [y,1,x] W w.heap.size 3 hW rfl H64.out (by omega) hv);rw[if_pos hc];clear hc hsum hv;generalize y+1+x=S at*;go_enter Tryz.func234,Tryz.ntmps234;go_wp2_with fail;refine(HS.out _ (by exact zg w _ _ rfl)).mono ?_;rintro e w1 ⟨rfl,hb1⟩;have hb2:Below w.heap.size w w1:=((Below.refl _ _).alloc (Nat.le_refl _) _).trans (hb1.mono (by simp));obtain⟨ge,cp,w',hrun,c7,f7,hb,hR',hE⟩:=zu8 (HV.out.below hb2) (HR.out.later hb2) hg S Hl.out;have p7:=(HR.out.later hb2).cell 7 rfl;rw[←Hn.out] at hrun c7 hb hR' hE p7;have Hrun:=hid hrun;have HR':=hid hR';have HE:=hid hE;have Hb:=hid ((hb2.mono (show base≤w.heap.size by have:=HR.out.lt;omega)).trans hb);clear hrun hR' hE hb hb1 hb2 qe q7 HR HV;go_wp2_with (at_builtin;refine jf _ _ 83 rfl rfl _ _ rfl rfl _ _ Hrun.out ?_);go_ret2;exact⟨Hb.out,nx,rfl,hg,_,cu,HR'.out,HE.out⟩
   · have hv:zbt [y,1,x].sum=.tuple #[.int .u64 0,.bool false]:=by rw[hsum];exact zin hc
     have HS:=hid (fun W hW=>zgx [y,1,x] W w.heap.size 3 hW rfl H64.out (by omega) hv);rw[if_neg hc];clear hc hsum hv;go_enter Tryz.func234,Tryz.ntmps234;go_wp2_with fail;refine(HS.out _ (by exact zg w _ _ rfl)).mono ?_;rintro e w1 ⟨rfl,hb1⟩;have hb2:Below w.heap.size w w1:=((Below.refl _ _).alloc (Nat.le_refl _) _).trans (hb1.mono (by simp));have HR':=hid (HR.out.later hb2);have Hb:=hid (hb2.mono (show base≤w.heap.size by have:=HR.out.lt;omega));clear hb1 hb2 qe q7 HR HV;go_wp2_with fail;go_ret2;exact⟨Hb.out,rfl,_,HR'.out,rfl⟩
end
section
open Go.RowKit
theorem UsedM.grownT {w w':World} {U g:Nat} {ix:List Nat} {T:TypeId} {C:List Value} (h:UsedM w U ix) (hR:Row w g T C) (hg:w.grownBy w' (some g)):UsedM w' U ix:=
 h.same (hg.block U h.lt (fun e=>by injection e with e;exact h.ne (show w.heap[g]?=_ from hR) e))
structure VRows (w:World) (base R:Nat) (L:zt) (part K:Value) (U C B left:Nat) (fr:Int) (ip:Value) (ix:List Nat) (vs:List Vec):Prop where
 row:Row w R 123 (wkC L part K U C .nilIface)
 vrow:Row w B 189 (vcC left fr ip)
 cur:Row w C 183 (jw C 0 0 none false)
 used:UsedM w U ix
 kv:KV w base K vs
theorem zlk {W:World} {base R:Nat} {L:zt} {part K:Value} {U C B left:Nat} {fr:Int} {ip:Value} {ix:List Nat} {vs:List Vec} (h:VRows W base R L part K U C B left fr ip ix vs) (hb:base≤R) {V:Value} {v:Vec} (hV:EnSl W 0 V v) (hl:vs.length+1≤1000000000000):
 ∃gK cK w3,(Builtin.append_ #[25,25] 25 #[K,.slice (some ⟨W.heap.size,0,none⟩) 1 1]).run Tryz.prog (W.alloc (.cells #[.slice none 0 0,V] 85))=.ok (.slice (some ⟨gK,0,none⟩) (vs.length+1) cK) w3∧Below base W w3∧
  Row w3 R 123 (wkC L part K U C .nilIface)∧Row w3 B 189 (vcC left fr ip)∧Row w3 C 183 (jw C 0 0 none false)∧UsedM w3 U ix∧KV w3 base (.slice (some ⟨gK,0,none⟩) (vs.length+1) cK) (vs++[v]):=by
 have hal:Below W.heap.size W (W.alloc (.cells #[.slice none 0 0,V] 85)):=(Below.refl _ _).alloc (Nat.le_refl _) _;have hbW:base≤W.heap.size:=by have:=h.row.lt;omega
 have hVs:EnSl (W.alloc (.cells #[.slice none 0 0,V] 85)) 0 V v:=hV.steady (P:=fun _=>True) (.of_below hal) trivial trivial;have hKa:=h.kv.later hal;obtain⟨K',w3,hrun,hK',hg,hk⟩:=hKa.snoc hVs (some ⟨W.heap.size,0,none⟩) 1 (yg (zg W (.cells #[.slice none 0 0,V] 85) _ rfl) rfl rfl) hl (Nat.le_trans hbW hal.size);have hK2:=hK';obtain⟨Y,hoK,-⟩:=hK2;obtain⟨gK,cK,e,-⟩:=zb3 hoK (by simp);have eL:(vs++[v]).length=vs.length+1:=by simp
 rw[eL] at e;subst e;obtain⟨Y0,ho0,-⟩:=hKa;have ne:∀{g T C},Row (W.alloc (.cells #[.slice none 0 0,V] 85)) g T C→T≠85→some g≠K.ownBlock:=fun hR hT e=>hR.ne_own ho0 hT _ e.symm rfl
 refine⟨gK,cK,w3,hrun,Below.grown (hal.mono hbW) hg (Nat.le_trans hbW hal.size) hk,(h.row.later hal).grown hg (ne (h.row.later hal) (by decide)),(h.vrow.later hal).grown hg (ne (h.vrow.later hal) (by decide)),(h.cur.later hal).grown hg (ne (h.cur.later hal) (by decide)),?_,hK'⟩;have hU:=h.used.same (hal.block U h.used.lt);refine hU.same (hg.block U hU.lt fun e=>?_);rcases ho0.2 with ⟨e',_⟩ | ⟨b,cap,cur,e',_,hh,_⟩
 · rw[e'] at e;cases e
 · rw[e'] at e;injection e with e;subst e;exact hU.ne hh rfl
theorem ze8 {w:World} {base R:Nat} {L:zt} {part K:Value} {U C B left:Nat} {fr:Int} {ip:Value} {ix:List Nat} {vs:List Vec} {K':Value} (hR:Row w R 123 (wkC L part K U C .nilIface)) (hB:Row w B 189 (vcC left fr ip)) (hC:Row w C 183 (jw C 0 0 none false)) (hu:UsedM w U ix) (hK:KV w base K' vs) (left':Nat):
 VRows (((w.setCell ⟨R,6,none⟩ K').setCell ⟨B,1,none⟩ (.int .i64 (-1))).setCell ⟨B,0,none⟩ (.int .u64 (left':Int))) base R L part K' U C B left' (-1) ip ix vs:=by
 have g1:=za7 w R 6 K';have hR1:Row (w.setCell ⟨R,6,none⟩ K') R 123 (wkC L part K' U C .nilIface):=hR.set 6 _;have nRB:=hR.ne hB (by decide);have hB1:=hB.grown g1 (fun e=>by injection e with e;exact nRB e.symm);have hC1:=hC.grown g1 (fun e=>by injection e with e;exact hR.ne hC (by decide) e.symm);have hu1:=hu.grownT hR g1;have hK1:=hK.grown (hR.notT (by rintro(h | h | h) <;> cases h)) g1;have g2:(w.setCell ⟨R,6,none⟩ K').grownBy (((w.setCell ⟨R,6,none⟩ K').setCell ⟨B,1,none⟩ (.int .i64 (-1))).setCell ⟨B,0,none⟩ (.int .u64 (left':Int))) (some B):=za8 (a:=⟨B,0,none⟩) (za8 (a:=⟨B,1,none⟩) (zgl _ _) _ (.inr rfl)) _ (.inr rfl);refine⟨hR1.grown g2 (fun e=>by injection e with e;exact nRB e),(hB1.set 1 (.int .i64 (-1))).set 0 (.int .u64 (left':Int)),hC1.grown g2 (fun e=>by injection e with e;exact hB1.ne hC1 (by decide) e.symm),hu1.grownT hB1 g2,hK1.grown (hB1.notT (by rintro(h | h | h) <;> cases h)) g2⟩
theorem VRows.more {w:World} {base R:Nat} {L:zt} {K ip:Value} {U C B left:Nat} {s:WS} {vs:List Vec} (h:VRows w base R L (.iface 186 (.pointer (some ⟨B,0,none⟩))) K U C B left (-1) ip s.ix vs) (ht:s.tag=1) (hR:base≤R) (hU:base≤U) (hC:base≤C) (hB:base≤B):WkR w base R L { s with vs:=vs,left:=left,inner:=ps0 }:=by
 refine⟨hR,_,K,U,C,hU,hC,h.row,h.used,?_⟩;unfold WkB;simp only[ht];exact⟨B,rfl,hB,h.cur,.inl ⟨rfl,⟨ip,h.vrow⟩,h.kv⟩⟩
theorem VRows.mid {w:World} {base R:Nat} {L:zt} {part K ip:Value} {U C B left:Nat} {fr:Int} {s:WS} {vs:List Vec} (h:VRows w base R L part K U C B left fr ip s.ix vs) (hR:base≤R) (hU:base≤U) (hC:base≤C):WkR (w.setCell ⟨R,5,none⟩ (.iface 190 (.agg #[]))) base R L { s with tag:=2,vs:=vs,left:=0,inner:=ps0 }:=by
 have g1:=za7 w R 5 (.iface 190 (.agg #[]));exact⟨hR,_,K,U,C,hU,hC,h.row.set 5 _,h.used.grownT h.row g1,rfl,h.kv.grown (h.row.notT (by rintro(h | h | h) <;> cases h)) g1,h.cur.grown g1 (fun e=>by injection e with e;exact h.row.ne h.cur (by decide) e.symm)⟩
end
end Go.Proofs.YtdnjfnofjaoajaaGreatDoor
