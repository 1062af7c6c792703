/- Walks and laws, joined: Wb27. -/
import Derived.Test.YtdnjfnofjaoajaaGreatDoorWb25
set_option linter.unusedVariables false
set_option maxHeartbeats 16000000
namespace Go.Proofs.YtdnjfnofjaoajaaGreatDoor
open Lib (hid)
section
open Go.RowKit
theorem z6r {α:Type} {l:List α} {i:Nat} {x:α} (h:l[i]?=some x):l.set i x=l:=by
 apply List.ext_getElem?;intro j;rw[List.getElem?_set];by_cases e:i=j
 · subst e;rw[if_pos rfl,h];split
   · rfl
   · rename_i hl;rw[List.getElem?_eq_none (by omega)] at h;cases h
 · rw[if_neg e]
theorem z6s {ss:List (Value×Value)} {p:Nat} {q:Value×Value} (h:ss[p]?=some q) (x:Value):(yt ss).set (p*2) x=yt (ss.set p (x,q.2)):=by
 rw[←znx];refine(z6r ?_).symm;rw[List.getElem?_set_ne (by omega)];exact(zh8 h).2
theorem z6t {w:World} {base inner g n c p:Nat} {k:Kno} {ss:List (Value×Value)} (hn:k.length=n) (hp:p<n) (ho:w.ownsRow base 85 2 (.slice (some ⟨g,0,none⟩) n c) n (yt ss)) (hh:PartsT w inner k ss) (hb:inner≤base) (l:List Iv) (x:Value)
 (hx:IvSl w inner x l):OwnK (w.setCell ⟨g,p*2,none⟩ x) base inner (.slice (some ⟨g,0,none⟩) n c) (k.set p (l,(za k p).2)):=by
 have hrow:∃C fr,w.heap[g]?=some (.cells C 85 fr)∧base≤g:=by
  rcases ho.2 with ⟨h,_⟩ | ⟨g',cap,cur,h,hg,hr,_⟩
  · cases h
  · cases h;exact⟨_,_,hr,hg⟩
 obtain⟨C,fr,hr,hg⟩:=hrow;obtain⟨q,hq,-,hy⟩:=hh.2 p (by omega);have h1:=(ho.stored (p*2) x).1;rw[z6s hq] at h1;have s:Steady inner zbp w (w.setCell ⟨g,p*2,none⟩ x):=Steady.setCell (a:=⟨g,p*2,none⟩) hr (Nat.le_trans hb hg) (by rintro(h | h) <;> cases h);refine⟨ss.set p (x,q.2),by rw[List.length_set,hn];exact h1,?_⟩;exact(hh.steady s (.inl rfl) (.inr rfl)).set (hx.steady s (.inl rfl)) (hy.steady s (.inl rfl) (.inr rfl))
theorem z6u (ss:List (Value×Value)) (p:Nat) (x y:Value):(yt ss).take (p*2)++([x,y]++(yt ss).drop (p*2))=yt (ss.take p++[(x,y)]++ss.drop p):=by
 rw[zku,znw,zko,zko];simp[yt]
theorem z6v {w:World} {Bl base:Nat} {x y u:Value} {k:Kno} (h:OwnK w base 0 x k) (hb:w.heap[Bl]?=some (.cells #[y] 257 (0,0))) (hl:Bl<base):OwnK (w.setCell ⟨Bl,0,none⟩ u) base 0 x k:=by
 obtain⟨ss',h1,h2⟩:=h;have hs5:Steady 0 zbp w (w.setCell ⟨Bl,0,none⟩ u):=Steady.setCell (a:=⟨Bl,0,none⟩) hb (Nat.zero_le _) (by rintro(h | h) <;> cases h);exact⟨ss',qr h1 (fun j hj1 hj2=>Below.heap_setCell _ _ _ _ (by simp only;omega)),h2.steady hs5 (.inl rfl) (.inr rfl)⟩
def z6w (Bl base:Nat) (k:Kno) (w:World) (e:Ending) (w':World):Prop:=
 e=.returned (.tuple #[])∧(∃x',w'.heap[Bl]?=some (.cells #[x'] 257 (0,0))∧OwnK w' base 0 x' k)∧Kept (fun j=>j<base∧j≠Bl) w w'
set_option maxRecDepth 100000 in
theorem z6x (Bl base:Nat) (x:Value) (k:Kno) (f:Frg) (a:Option Addr) (n c:Nat) (b:Option Addr) (m d:Nat) (w:World)
 (hB:w.heap[Bl]?=some (.cells #[x] 257 (0,0))) (hbl:Bl<base) (hbs:base≤w.heap.size) (ho:OwnK w base 0 x k) (hI:Ivs w a n c f.1) (hV:EntsT w 0 b m d f.2)
 (hG:∀g∈k,GrpF g) (hf:GrpF f) (hA:k.Pairwise jy) (fk:∀g∈k,VecFits g.2) (ff:VecFits f.2) (hn:k.length+1≤100000) (hs:yf k+f.1.length≤100000):
 Calls Tryz.prog 157 #[.pointer (some ⟨Bl,0,none⟩),.agg #[.slice a n c,.slice b m d]] w (z6w Bl base (ke k f) w):=by
 have hal:Below w.heap.size w (w.alloc (.cells #[.slice a n c,.slice b m d] 85)):=(Below.refl _ _).alloc (Nat.le_refl _) _;obtain⟨wB,hwB⟩:∃wB,wB=w.alloc (.cells #[.slice a n c,.slice b m d] 85):=⟨_,rfl⟩;have hrB:wB.heap[w.heap.size]?=some (.cells #[.slice a n c,.slice b m d] 85):=by rw[hwB];exact z7 rfl
 have hsB:wB.heap.size=w.heap.size+1:=by rw[hwB];simp
 rw[←hwB] at hal;have hBB:=(hal.block Bl (by omega)).trans hB;have hoB:=ho.below hal;have hIB:=hI.below hal;have hVB:EntsT wB 0 b m d f.2:=hV.steady (P:=fun _=>True) (.of_below hal) trivial trivial;obtain⟨xa,xc,hx,hK⟩:=hoB.frags;subst hx;have hKB:Kept (fun j=>j<base∧j≠Bl) w wB:=(Kept.refl _ w).below hal;have hC:=hid (fun w' (h:Below wB.heap.size wB w')=>z4o xa b k.length xc m d k f.2 w' (hK.below h) (hVB.ents.below h) hA (by omega) fk ff);have HwB:=hid hwB;have HKB:=hid hKB;have HoB:=hid hoB;have HIB:=hid hIB;have HVB:=hid hVB;have HBB:=hid hBB;have HrB:=hid hrB;have HsB:=hid hsB;have HG:=hid hG;have Hf:=hid hf;have Hs:=hid hs;have hnl:=hI.len;have r0:∀w',Below wB.heap.size wB w'→w'.cell? ⟨Bl,0,none⟩=some (.slice xa k.length xc):=fun w' h=>zu ((h.block _ (by omega)).trans hBB) rfl
 have r1:∀w',Below wB.heap.size wB w'→w'.cell? ⟨w.heap.size,0,none⟩=some (.slice a n c):=fun w' h=>zu ((h.block _ (by omega)).trans hrB) rfl
 have r2:∀w',Below wB.heap.size wB w'→w'.cell? ⟨w.heap.size,1,none⟩=some (.slice b m d):=fun w' h=>zu ((h.block _ (by omega)).trans hrB) rfl
 have R0:=hid r0;have R1:=hid r1;have R2:=hid r2;clear hB ho hI hV hG hf hA hs hal hBB hoB hIB hVB hK hKB hrB hwB hsB hnl;go_enter Tryz.func157,Tryz.ntmps157;go_wp2_with fail;rw[←HwB.out]
 go_region_held3 (fun w'=>Below wB.heap.size wB w') (first | assumption | exact Below.refl _ _ | exact(Below.refl _ _).drew | exact Below.alloc (by assumption) (Below.size (by assumption)) _) (first
  | (go_at_call 197
     refine(hC.out _ (by assumption)).mono ?_;rintro e w2 ⟨rfl,hb2⟩;have hS2:Below wB.heap.size wB w2:=Below.trans (by assumption) (hb2.mono (Below.size (by assumption)));clear hb2))
 all_goals
  have Hw2:=hid hS2;clear r0 r1 r2 hC hS2;have hBw:wB.heap.size≤w2.heap.size:=Hw2.out.size;have hK2:=(HKB.out.below Hw2.out);have HK2:=hid hK2;have HBl2:=hid ((Hw2.out.block Bl (by have:=HsB.out;omega)).trans HBB.out);have HoK:=hid (HoB.out.below Hw2.out);have HI2:=hid (HIB.out.below Hw2.out);have HV2:=hid (HVB.out.steady (P:=fun _=>True) (.of_below Hw2.out) trivial trivial);have Hr2:=hid ((Hw2.out.block w.heap.size (by have:=HsB.out;omega)).trans HrB.out);have h0:=R0.out _ Hw2.out;have h1:=R1.out _ Hw2.out;have h2:=R2.out _ Hw2.out;have hb2w:base≤w2.heap.size:=by have:=HsB.out;omega
  have hlw2:w.heap.size<w2.heap.size:=by have:=HsB.out;omega
  clear hK2
  cases hhit:zbg k f.2 with
  | true=>
   have hadd:=znl hhit
   have hpl:qg k f.2<k.length:=by
    rcases Nat.lt_or_ge (qg k f.2) k.length with h | h
    · exact h
    · have:=zkj (k:=k) (v:=f.2) (Nat.le_antisymm (znk k f.2) h);rw[this] at hhit;cases hhit
   have hcm:=(zki hpl).2;rw[hhit] at hcm;have hveq:(za k (qg k f.2)).2=f.2:=zq2 (by simpa using hcm.symm);have hgp:=HG.out _ (yb hpl);rcases HoK.out.form2 with ⟨he,h9,-,-⟩ | ⟨g,ss,he,-,hgb,hgl,hgc,hgm,hro,hpt⟩
   · omega
   · subst he;obtain⟨q,hq,⟨ia,im,ic,hqe,hiI⟩,-⟩:=hpt.2 (qg k f.2) hpl;have hcell:=hro.cells (g:=g) rfl _ _ (zh8 hq).1;rw[yp,Nat.zero_add,hqe] at hcell;have hsum:(za k (qg k f.2)).1.length≤yf k:=zc8 (yb hpl);have HU:=hid (fun w' (h:Below w2.heap.size w2 w')=>zoj ia a im ic n c (za k (qg k f.2)).1 f.1 w' (hiI.ivs.below h) (HI2.out.below h) hgp.good Hf.out.good (by have:=Hs.out;omega));have HUl:=hid ((zai (g:=gOr) hgp.items Hf.out.items rfl).2.2)
     have Hset:=hid (show ∀(w':World) (y:Value),w'.ownsRow base 85 2 (.slice (some ⟨g,0,none⟩) k.length xc) k.length (yt ss)→PartsT w' 0 k ss→IvSl w' 0 y (opL gOr (za k (qg k f.2)).1 f.1)→OwnK (w'.setCell ⟨g,qg k f.2*2,none⟩ y) base 0 (.slice (some ⟨g,0,none⟩) k.length xc) (ke k f) from fun w' y h1 h2 h3=>by
      have:=z6t rfl hpl h1 h2 (Nat.zero_le _) _ y h3;rw[hveq] at this;rw[hadd];exact this)
     have Hro:=hid hro;have Hpt:=hid hpt;have hfz:=kj hro (qg k f.2*2);have HZ:=hid (fun w' (h:Below w2.heap.size w2 w')=>And.intro ((h.cell (p:=⟨g,qg k f.2*2,none⟩) (ze hcell)).trans hcell) (kj (zm hro h) (qg k f.2*2)));have HR0:=hid (fun w' (h:Below w2.heap.size w2 w')=>show w'.cell? ⟨Bl,0,none⟩=some (.slice (some ⟨g,0,none⟩) k.length xc) from zu (i:=0) ((h.block Bl (by omega)).trans HBl2.out) rfl);have HR1:=hid (fun w' (h:Below w2.heap.size w2 w')=>show w'.cell? ⟨w.heap.size,0,none⟩=some (.slice a n c) from zu (i:=0) ((h.block w.heap.size hlw2).trans Hr2.out) rfl);generalize opL gOr (za k (qg k f.2)).1 f.1=U at*;generalize qg k f.2=p at*;have hk63:(p:Int)<(k.length:Int):=by omega
     clear hro hpt hiI hadd hcm hveq hgp hsum hq;go_wp2_with fail
     go_region_with (first
      | (go_at_call 131
         refine(HU.out _ (by first | exact Below.refl _ _ | exact(Below.refl _ _).drew)).mono ?_;rintro e w4 ⟨⟨yu,rfl,hou⟩,hb4⟩;have hT4:Below w2.heap.size w2 w4:=⟨hb4.os,hb4.tape,hb4.output,hb4.size,hb4.block⟩;obtain⟨ua,uc,rfl,hIu⟩:=zdn (base':=0) hou HUl.out;have HIu:=hid hIu;have zz:=HZ.out w4 hT4;have z0:=zz.1;have z1:=zz.2;have z2:=HR0.out w4 hT4;have z3:=HR1.out w4 hT4;clear zz hb4 hou hIu))
     all_goals go_wp2
     all_goals
      refine bodyPost_ret (results_none rfl _ _ _) rfl ?_;have hT:=Hw2.out.trans (hT4.mono hBw);refine⟨rfl,⟨_,(Below.heap_setCell _ _ _ _ (by simp only;omega)).trans ((hT4.block Bl (by omega)).trans HBl2.out),Hset.out w4 _ (zm Hro.out hT4) (Hpt.out.steady (P:=fun _=>True) (.of_below hT4) trivial trivial) ⟨_,_,_,rfl,HIu.out⟩⟩,?_⟩
      exact(HK2.out.below hT4).setCell (fun _ h=>by have h1:=h.1;simp only at h1;omega) _
  | false=>
   have hadd:=zkk hhit;have hpl:=znk k f.2;have HCl:=hid (fun w' (h:Below w2.heap.size w2 w')=>z1r a n c f.1 w' (HI2.out.below h) (by have:=Hs.out;rw[←(HI2.out).len];omega));obtain⟨ss,hro,hpt⟩:=HoK.out;have Hro:=hid hro;have Hpt:=hid hpt;have hssl:=hpt.1;have HFi:=hid Hf.out.items
   have HFr:=hid (show ∀(w':World) (v' cl:Value),w'.ownsRow base 85 2 v' (k.length+1) ((yt ss).take (qg k f.2*2)++([cl,.slice b m d]++(yt ss).drop (qg k f.2*2)))→PartsT w' 0 k ss→IvSl w' 0 cl f.1→EnSl w' 0 (.slice b m d) f.2→OwnK w' base 0 v' (ke k f) from fun w' v' cl h1 h2 h3 h4=>by
    rw[z6u] at h1;have hl:(ke k f).length=k.length+1:=by rw[hadd];simp;omega
    refine⟨_,by rw[hl];exact h1,?_⟩;rw[hadd];have:=((h2.take (qg k f.2)).append (zgm (f:=f) h3 h4)).append (h2.drop (qg k f.2));simpa using this)
   have hone:=hpt.one;have HR0:=hid (fun w' (h:Below w2.heap.size w2 w')=>show w'.heap[Bl]?=some (.cells #[.slice xa k.length xc] 257 (0,0))∧w'.cell? ⟨Bl,0,none⟩=some (.slice xa k.length xc)∧w'.cell? ⟨w.heap.size,1,none⟩=some (.slice b m d) from And.intro ((h.block Bl (by omega)).trans HBl2.out) (And.intro (zu (i:=0) ((h.block Bl (by omega)).trans HBl2.out) rfl) (zu (i:=1) ((h.block w.heap.size hlw2).trans Hr2.out) rfl)));have Hlt:=hid hro.lt;generalize qg k f.2=p at*;have Hone:=hid hone;clear hro hpt hadd hone;go_wp2_with fail
   go_region_with (first
    | (go_at_call 200
       refine(HCl.out _ (by first | exact Below.refl _ _ | exact(Below.refl _ _).drew)).mono ?_;rintro e w4 ⟨⟨yu,rfl,hou⟩,hb4⟩;have hT4:Below w2.heap.size w2 w4:=⟨hb4.os,hb4.tape,hb4.output,hb4.size,hb4.block⟩;obtain⟨ua,uc,rfl,hIu⟩:=zdn (base':=0) hou HFi.out;have HIu:=hid hIu;have zz:=HR0.out w4 hT4;have z2:=zz.2.1;have z3:=zz.2.2;have hBl4:Bl<w4.heap.size:=by have:=hT4.size;omega
       have z4:(w4.alloc (.cells #[.slice ua f.1.length uc,.slice b m d] 85)).cell? ⟨Bl,0,none⟩=some (.slice xa k.length xc):=zu (i:=0) (qk zz.1) rfl
       clear zz hb4 hou hIu)
    | (go_at_call 199
       have hal5:Below w4.heap.size w4 (w4.alloc (.cells #[.slice ua f.1.length uc,.slice b m d] 85)):=(Below.refl _ _).alloc (Nat.le_refl _) _;refine(z2h base (.slice xa k.length xc) k.length p w4.heap.size (yt ss) [.slice ua f.1.length uc,.slice b m d] _ (zm Hro.out (hT4.trans (hal5.mono hT4.size))) (z7 rfl) (fun e=>by have:=(Hlt.out _ e).2;have:=hT4.size;omega) rfl Hone.out (by intro u hu;simp at hu;rcases hu with rfl | rfl <;> rfl) hpl (by omega) (by have:=hT4.size;simp;omega)).mono ?_;rintro e w5 ⟨v5,rfl,ho5,hg5⟩;have hBl5:w5.heap[Bl]?=some (.cells #[.slice xa k.length xc] 257 (0,0)):=(hg5.block Bl (by have:=hT4.size;simp;omega) (fun e=>by have:=(Hlt.out _ e.symm).1;omega)).trans (qk (HR0.out w4 hT4).1);have z5:=zam hBl5;have z6:=y7 hBl5;have HBl5:=hid hBl5;have Ho5:=hid ho5;have Hg5:=hid hg5;have Hal5:=hid hal5;obtain⟨v5a,v5c,rfl⟩:=ks ho5;clear hBl5 ho5 hg5 hal5))
   all_goals go_wp2
   all_goals
    go_end0
    have hst:Steady 0 zbp w2 w5:=(Steady.of_below (hT4.trans (Hal5.out.mono hT4.size))).trans ((Steady.grown (zm Hro.out (hT4.trans (Hal5.out.mono hT4.size))) Hg5.out (by rintro(h | h) <;> cases h)).lower (Nat.zero_le _));have hst4:Steady 0 zbp w4 w5:=(Steady.of_below Hal5.out).trans ((Steady.grown (zm Hro.out (hT4.trans (Hal5.out.mono hT4.size))) Hg5.out (by rintro(h | h) <;> cases h)).lower (Nat.zero_le _));have hOK:=HFr.out w5 _ _ Ho5.out (Hpt.out.steady hst (.inl rfl) (.inr rfl)) ⟨_,_,_,rfl,HIu.out.steady hst4 (.inl rfl)⟩ ⟨_,_,_,rfl,HV2.out.steady hst (.inl rfl) (.inr rfl)⟩;refine⟨rfl,⟨_,zcj HBl5.out,?_⟩,?_⟩
    · exact z6v hOK HBl5.out hbl
    · exact(((HK2.out.below (hT4.trans (Hal5.out.mono hT4.size)))).grown Hg5.out (fun j hj hjw hjp=>by have:=(Hlt.out j hj).1;have:=hjp.1;omega)).setCell (fun _ h=>h.2 rfl) _
theorem z6y {k:Kno} (h:∀f∈k,RawF f) (d:Nat):(zbr k d).Pairwise jy:=
 (zh5 (k:=k.take d) (out:=[]) (fun f hf=>h f (List.mem_of_mem_take hf)) (fun g hg=>by cases hg) List.Pairwise.nil).2.1
set_option maxRecDepth 20000 in
theorem z6z (a:Option Addr) (n cap:Nat) (k:Kno) (w:World) (hE:Frags w a n cap k) (hR:∀f∈k,RawF f) (hF:∀f∈k,VecFits f.2) (hC:∀f∈k,CanV f.2) (hS:yf k≤50000) (hn:n≤50000):
 Calls Tryz.prog 118 #[.slice a n cap] w fun x w'=>(∃y,x=.returned y∧OwnK w' w.heap.size 0 y (zce k))∧Below w.heap.size w w':=by
 have HE:=hid hE;have HR:=hid hR;have HF:=hid hF;have HC:=hid hC;have Hl:=hid hE.len;have Hall:=hid (zkv k);have HS:=hid (fun d=>And.intro (Nat.le_trans (zid hR d).1 hS) (Nat.le_trans (zid hR d).2 (by rw[hE.len];exact hn)));have Hk1:=hid (fun f (hf:f∈k)=>Nat.le_trans (zc8 hf) hS);have Hself:=hid (fun f (hf:f∈k)=>zj9 (hR f hf).lt.vec (hC f hf));have HGf:=hid (zny (k:=k) (fun f hf=>by rw[zj9 (hR f hf).lt.vec (hC f hf)];exact hF f hf));clear hE hR hF hC hS;go_enter Tryz.func118,Tryz.ntmps118;go_wp2;go_loopw [6,7,11] (fun _ _ i wr=>∃(d:Nat) (x:Value),d≤n∧i=.int .i64 d∧Below w.heap.size w wr∧Hid (wr.heap[w.heap.size]?=some (.cells #[x] 257 (0,0)))∧Hid (OwnK wr (w.heap.size+1) 0 x (zbr k d))) (fun _ _ i _=>n - (intOf i).toNat)
 case atStart=>exact⟨0,.slice none 0 0,by omega,rfl,(Below.refl _ _).alloc (Nat.le_refl _) _,z7 rfl,zkp _ _ _⟩
 case round=>
  obtain⟨d,xl,hd,rfl,hb,hrow,ho⟩:=hrel;have Hb:=hid hb;clear hb;have hws:w.heap.size<wr.heap.size:=(Array.getElem?_eq_some_iff.1 hrow.out).1;by_cases hdn:d<n
  · have hdk:d<k.length:=by rw[Hl.out];exact hdn
    obtain⟨bb,oo,rfl⟩:=HE.out.some (by omega);obtain⟨x,m,c,y,m',c',hq⟩:=HE.out.fix hdn;have Hq:=hid hq;have hraw:=HR.out _ (yb hdk);have hfit:=HF.out _ (yb hdk);have hcan:=HC.out _ (yb hdk);have Hfl:=hid (Hk1.out _ (yb hdk));have hst:=zsi hdk;unfold stepG at hst;rw[Hself.out _ (yb hdk)] at hst;have Hst:=hid hst;have HOg:=hid (zsj HR.out d);have HOs:=hid (HS.out d);have HOf:=hid (HGf.out d);have HOp:=hid (z6y HR.out d);have hal:Below wr.heap.size wr (wr.alloc (.cells #[.slice x m c,.slice y m' c'] 85)):=(Below.refl _ _).alloc (Nat.le_refl _) _;obtain⟨q1,q2,q3,q4⟩:=hq wr Hb.out;have hV:=hid (z2i y m' c' (za k d).2 _ (q4.below hal) hcan hfit);have Hcl:=hid hraw.lt.vec;have Hil:=hid (show (za k d).1.length=m from q2.len);have HI:=hid q2;have Hg:=hid (fun (h:¬((za k d).2=[]∨(za k d).1=[]))=>show GrpF ((za k d).1,(za k d).2) from⟨hraw.good,fun e=>h (.inr e),hraw.lt.items,hcan,fun e=>h (.inl e),hraw.lt.vec⟩);have Hft:=hid hfit;have h0:(0:Int)≤d:=by omega
    have h04:(d:Int)<(n:Int):=by omega
    have HX:=hid (zir wr (.slice x m c) (.slice y m' c') 85);obtain⟨x0,x1⟩:=HX.out _ (Below.refl _ _);have Hal:=hid hal;clear hq hraw hfit hcan hst hal q2 q4;generalize zbr k d=O at*;generalize za k d=f at*;obtain⟨fi,fv⟩:=f;simp only at hV Hst Hcl Hil HI Hg Hft Hfl;go_wp2_with fail;refine hV.out.mono ?_;rintro e w1 ⟨⟨yv,rfl,hov⟩,hb1⟩;have Ha1:=hid (Hal.out.trans (hb1.mono Hal.out.size));have Hw1:=hid (Hb.out.trans (Ha1.out.mono Hb.out.size));have HoO:=hid (ho.out.below Ha1.out);have Hr1:=hid ((Ha1.out.block w.heap.size hws).trans hrow.out);have HI1:=hid (HI.out.below Ha1.out);obtain⟨va,vc,rfl,hV⟩:=hov.entsT (base':=0) Hcl.out;have HV:=hid hV;obtain⟨x0,x1⟩:=HX.out _ hb1;clear hov hV q1 q3 hb1;obtain⟨L,hL⟩:∃L,L=fv.length:=⟨_,rfl⟩;rw[←hL] at HV ⊢;have HL:=hid hL;clear hL;by_cases hemp:fv=[]∨fi=[]
    · rw[if_pos hemp] at Hst;by_cases hL0:L=0
      · have hz:¬0<L:=by omega
        clear hemp hL0;go_wp2;go_roundw
        case rel=>exact⟨d+1,xl,by omega,by go_num,Hw1.out,Hr1,by rw[Hst.out];exact HoO.out⟩
        case measure=>simp[intOf];omega
      · have hz:0<L:=by omega
        have hm0:m=0:=by
         rcases hemp with h | h
         · exact absurd (by rw[HL.out,h];rfl) hL0
         · rw[←Hil.out,h];rfl
        have hz2:¬0<m:=by omega
        clear hemp hL0 hm0;go_wp2;go_roundw
        case rel=>exact⟨d+1,xl,by omega,by go_num,Hw1.out,Hr1,by rw[Hst.out];exact HoO.out⟩
        case measure=>simp[intOf];omega
    · rw[if_neg hemp] at Hst
      have hz:0<L:=by
       rcases Nat.eq_zero_or_pos L with h | h
       · exact absurd (.inl (List.length_eq_zero_iff.1 (by have:=HL.out;omega))) hemp
       · omega
      have hz2:0<m:=by
       rcases Nat.eq_zero_or_pos m with h | h
       · exact absurd (.inr (List.length_eq_zero_iff.1 (by have:=Hil.out;omega))) hemp
       · omega
      have hgf:=Hg.out hemp;have hA:=hid (z6x w.heap.size (w.heap.size+1) xl O (fi,fv) x m c va L vc w1 Hr1.out (Nat.lt_succ_self _) (by have:=Ha1.out.size;omega) HoO.out HI1.out HV.out HOg.out hgf HOp.out HOf.out Hft.out (by have:=HOs.out;omega) (by have:=HOs.out;have:=Hfl.out;simp only;omega));clear hemp hgf;go_wp2_with fail;refine hA.out.mono ?_;rintro e w3 ⟨rfl,⟨x',hr3,ho3⟩,hk3⟩;have Hr3:=hid hr3;have Ho3:=hid ho3;have Hb3:=hid (show Below w.heap.size w w3 from Hw1.out.trans (hk3.toBelow (fun j hj=>⟨by omega,by omega⟩) (by have:=Ha1.out.size;omega)));clear hr3 ho3 hk3;go_wp2;go_roundw
      case rel=>exact⟨d+1,x',by omega,by go_num,Hb3.out,Hr3,by rw[Hst.out];exact Ho3.out⟩
      case measure=>simp[intOf];omega
  · obtain rfl:d=n:=by omega
    have Ho:=hid ho.out;rw[←Hl.out,Hall.out] at Ho;have hc:=y7 hrow.out;go_wp2;go_ret;exact⟨⟨_,rfl,Ho.out.lower (Nat.le_succ _)⟩,Hb.out⟩
theorem zvx (a:Option Addr) (n cap:Nat) (k:Kno) (w:World) (hE:Frags w a n cap k) (hJ:Joins k) (hS:(zx k).length≤10000):
 Calls Tryz.prog 67 #[.slice a n cap] w fun x w'=>(∃y,x=.returned y∧OwnK w' w.heap.size 0 y (zh k))∧Below w.heap.size w w':=by
 have hC:=hid (z5l a n cap k w hE hJ hS)
 have hp:(jz k).length≤10000:=by
  have h1:=zif k (zx k).length;rw[zie] at h1;omega
 have hl:(qt k).length≤50000:=by unfold qt;rw[List.length_map];omega
 have hs:yf (qt k)≤50000:=by unfold qt;rw[zsn k k];omega
 have hv:∀f∈qt k,VecFits f.2∧CanV f.2:=fun f hf=>by
  unfold qt at hf;obtain⟨s,hs,rfl⟩:=List.mem_map.1 hf;obtain⟨c1,c2,_⟩:=zc1 hJ.lt s.1;have h1:VecFits (atK k s.1):=by rw[←zia];exact hJ.fits.at_ _ _
  exact⟨h1,c1⟩
 have hG:=hid (fun a c w' (h:Frags w' a (qt k).length c (qt k))=>z6z a _ c (qt k) w' h (zkl hJ.lt) (fun f hf=>(hv f hf).1) (fun f hf=>(hv f hf).2) hs hl);have Hck:=hid (show zh k=zce (qt k) from rfl);clear hE hJ hS hl hs hv hp;go_enter Tryz.func67,Tryz.ntmps67;go_wp2_with fail;refine hC.out.mono ?_;rintro e w1 ⟨⟨v,rfl,ho⟩,hb⟩;have Hb:=hid hb;obtain⟨a1,c1,rfl,h1⟩:=ho.frags;have H1:=hid h1;clear ho hb h1;go_wp2_with fail;refine(hG.out a1 c1 w1 H1.out).mono ?_;rintro e w2 ⟨⟨v,rfl,ho⟩,hb⟩;have Ho:=hid ho;have Hb2:=hid hb;clear ho hb;go_wp2;go_ret;exact⟨⟨v,rfl,by rw[Hck.out];exact Ho.out.lower Hb.out.size⟩,Hb.out.trans (Hb2.out.mono Hb.out.size)⟩
theorem zov {k:Kno} (hc:CanK k):zb4 (vu k) 0:=by
 obtain⟨-,-,h3⟩:=zcx k k.length (Nat.le_refl _);have hp:=List.pairwise_iff_getElem.1 (zs6 hc);intro i hi;rw[ze1] at hi;rw[zk4 hi];refine⟨(hc.items _ (yb (h3 _ (List.getElem_mem hi)).1)).1.ok _ (h3 _ (List.getElem_mem hi)).2,fun h0=>?_⟩;have:=(hp (i - 1) i (by omega) hi (by omega)).1;rw[zk4 (by omega)];omega
theorem zlp {k:Kno} {i:Nat} (h:i<(zj k).length):nth ((zj k).map (·.2)) i<k.length:=by
 obtain⟨-,-,h3⟩:=zcx k k.length (Nat.le_refl _);have e:nth ((zj k).map (·.2)) i=(zj k)[i].2:=by simp[nth,h]
 rw[e];exact(h3 _ (List.getElem_mem h)).1
theorem zow {c:Kno} (h:∀f∈c,VecFits f.2):∀d,d≤c.length→(y8 c d).length≤1+301000*d
 | 0,_=>by simp[y8]
 | d+1,hd=>by
   have h1:=zow h d (by omega);have hf:=h _ (yb (show d<c.length from hd));have h2:=zlm (za c d).2 hf.holes (za c d).2.length (Nat.le_refl _);have h3:=hf.len;rw[y8,List.length_append];unfold vw;omega
theorem zeb (l:List Iv) (x:List Nat):∀d,(ja l x d).length=1+3*d
 | 0=>rfl
 | d+1=>by rw[ja,List.length_append,zeb l x d];simp;omega
set_option maxRecDepth 100000 in
theorem zox (a:Option Addr) (n cap:Nat) (k:Kno) (w:World) (hE:Frags w a n cap k) (hD:Door w) (hck:ckF k=none) (hJ:Joins k) (hS:(zx k).length≤10000) (hk:LtK (zh k)) (hcan:CanK (zh k)) (hI:yf (zh k)≤10000) (hF:∀f∈zh k,VecFits f.2) (hB:∀d,d≤(zh k).length→(y8 (zh k) d).length≤600000000000) (hN:(zh k).length≤10000):
 Calls Tryz.prog 35 #[.slice a n cap] w fun x w'=>(∃v,x=.returned (.tuple #[v,.nilIface])∧OwnB w' w.heap.size v (zk (zh k)))∧Below w.heap.size w w':=by
 have hC:=zlc a n cap k w hE hD;rw[hck] at hC;simp only[yj,yl] at hC;have HC:=hid hC;have HE:=hid (fun W (h:Below w.heap.size w W)=>hE.below h);have HCn:=hid (fun W (h:Below w.heap.size w W)=>zvx a n cap k W (hE.below h) hJ hS);have Hdf:=hid (zov hcan);have Hcan:=hid hcan;have Hk:=hid hk;have HF:=hid hF;have HB:=hid hB;have HI:=hid hI;have HN:=hid hN;have Hgood:=hid (show ∀f∈zh k,Good f.1 from fun f hf=>(hcan.items f hf).1)
 have Hsl:=hid (show (zj (zh k)).length≤10000 from by
  have:=ze0 (zh k) (zh k).length (Nat.le_refl _);rw[List.take_length] at this;unfold zj;omega)
 clear hC hE hD hck hJ hS hk hcan hI hF hB;generalize zh k=c at*;go_enter Tryz.func35,Tryz.ntmps35;go_wp2_with fail;refine HC.out.mono ?_;rintro e w0 ⟨rfl,hb0⟩;have Hb0:=hid hb0;clear hb0;go_wp2_with fail;refine(HCn.out _ Hb0.out).mono ?_;rintro e w1 ⟨⟨y,rfl,ho⟩,hb1⟩;obtain⟨a1,c1,rfl,hK⟩:=ho.frags;have HK:=hid hK;have Hb1:=hid (Hb0.out.trans (hb1.mono Hb0.out.size));clear hb1 ho hK;obtain⟨N,hNe⟩:∃N,N=c.length:=⟨_,rfl⟩;have HNe:=hid hNe;rw[←hNe] at HK HN hN HB ⊢;clear hNe;have hcv:IntKind.u64.wrap (N:Int)=(N:Int):=by rw[IntKind.wrap_u64];omega
 go_wp2_with fail;refine(ze7 w1.heap.size _ [] N w1 (by omega) (zu1 _ _) (Nat.le_refl _) (by simp)).mono ?_;rintro e w2 ⟨b2,rfl,ho2,hg2⟩;have Hb2:=hid (hg2.toBelow (Nat.le_refl _) (fun k h=>by simp[Value.ownBlock] at h));have Ho2:=hid (show OwnB w2 w1.heap.size b2 (y8 c 0) from by rw[HNe.out] at ho2;exact ho2);clear ho2 hg2;go_wp2;go_loopw [6,8,29] (fun b _ i wr=>∃d:Nat,d≤N∧i=.int .i64 d∧Below w1.heap.size w1 wr∧Hid (OwnB wr w1.heap.size b (y8 c d))) (fun _ _ i _=>N - (intOf i).toNat)
 case atStart=>exact⟨0,by omega,rfl,Hb2.out,Ho2⟩
 case round=>
  obtain⟨d,hd,rfl,hb,hor⟩:=hrel;have Hb:=hid hb;clear hb;by_cases hdn:d<N
  · have hdc:d<c.length:=by rw[←HNe.out];exact hdn
    obtain⟨bb,oo,rfl⟩:=HK.out.some (by omega);obtain⟨x,m,cx,y,m',c',hq⟩:=HK.out.fix hdn;obtain⟨q1,-,q3,-⟩:=hq _ Hb.out;have hE1:=(hq _ (Below.refl _ _)).2.2.2;have hmem:=yb hdc;have hfit:=HF.out _ hmem;have hcv2:=(Hcan.out.vec _ hmem).1;have hal:Below wr.heap.size wr (wr.alloc (.cells #[.slice x m cx,.slice y m' c'] 85)):=(Below.refl _ _).alloc (Nat.le_refl _) _;have hbw:=Hb.out.trans (hal.mono Hb.out.size);have HP:=hid (z6a w1 _ _ y m' c' (za c d).2 _ hE1 hbw hcv2.asc (fun e he=>(hcv2.ent e he).good) (by have:=hfit.len;have:=hE1.len;omega) hfit.holes (hor.out.below hal) (HB.out d (by omega)));have Hst:=hid (show y8 c (d+1)=y8 c d++vw (za c d).2 from rfl);have Hbw:=hid hbw;have Hlt:=hid (hor.out.below hal).lt;have h0:(0:Int)≤d:=by omega
    have h04:(d:Int)<(N:Int):=by omega
    clear hq hE1 hmem hfit hcv2 hal hbw;generalize vw (za c d).2=pk at*;generalize y8 c d=P0 at*;go_wp2_with fail;refine HP.out.mono ?_;rintro e w3 ⟨b3,rfl,ho3,hg3⟩;have Ho3:=hid ho3;have Hb3:=hid (Hbw.out.trans (hg3.toBelow Hbw.out.size (fun k h=>(Hlt.out k h).1)));clear ho3 hg3;go_wp2;go_roundw
    case rel=>exact⟨d+1,by omega,by go_num,Hb3.out,by rw[Hst.out];exact Ho3.out⟩
    case measure=>simp[intOf];omega
  · obtain rfl:d=N:=by omega
    have HSg:=hid (zuc a1 d c1 c wr (HK.out.below Hb.out) Hgood.out HI.out);have HoV:=hid hor.out;obtain⟨wV,hwV⟩:∃wV:World,wV=wr:=⟨_,rfl⟩;rw[←hwV] at Hb HoV HSg ⊢;clear hwV hor;generalize u6=bV at*;go_wp2_with fail;refine HSg.out.mono ?_;rintro e w4 ⟨⟨l,al,cl,gi,rfl,hp,hasc,hIv,hix⟩,hb4⟩;obtain⟨e1,e2⟩:=zn5 Hcan.out hp hasc;obtain rfl:l=vu c:=e1;rw[e2] at hix;have Hb4:=hid (Hb.out.trans (hb4.mono Hb.out.size));have HoV4:=hid (HoV.out.below hb4);have HlV:=hid (show ∀k,bV.ownBlock=some k→w1.heap.size≤k∧k<wV.heap.size from HoV.out.lt);have HsV:=hid hb4.size;have Hix:=hid hix;obtain⟨S,hS⟩:∃S,S=(vu c).length:=⟨_,rfl⟩;have HSe:=hid hS;rw[←hS] at hIv Hix ⊢;have hS4:S≤10000:=by have:=Hsl.out;rw[hS,ze1];exact this
    have HDi:=hid (zop al S cl 0 (vu c) w4 hIv Hdf.out (by omega) (by omega));have Hdl:=hid (show ∀y∈kf (vu c) 0,y<18446744073709551616 from zk5 hIv.lt _ (Nat.le_refl _));clear hp hasc hIv hix e2 hb4 HSg HoV hS;rw[show ((0:Nat):Int)=0 from rfl] at HDi;go_wp2_with fail;refine HDi.out.mono ?_;rintro e w5 ⟨⟨vd,rfl,hod⟩,hb5⟩;have Hb5:=hid (Hb4.out.trans (hb5.mono Hb4.out.size));have HoV5:=hid (HoV4.out.below hb5);have Hix5:=hid (zm Hix.out hb5);have Hod:=hid hod;have hcvS:IntKind.u64.wrap (S:Int)=(S:Int):=by rw[IntKind.wrap_u64];omega
    have hl5:(y8 c d).length≤1000000000000:=by have:=HB.out d (Nat.le_refl _);omega
    have Hs4:=hid hb5.size;clear hb5 hod;go_wp2_with fail;refine(ze7 w1.heap.size _ _ S w5 (by omega) HoV5.out Hb5.out.size hl5).mono ?_;rintro e w6 ⟨b6,rfl,ho6,hg6⟩;have Ho6:=hid (show OwnB w6 w1.heap.size b6 (y8 c d++ja (vu c) ((zj c).map (·.2)) 0) from by rw[HSe.out] at ho6;exact ho6);have Hg6:=hid hg6;clear ho6 hg6
    have hrowX:=hid (fun W b (h:Grw w5 W bV b)=>h.row Hix5.out (fun k hk e=>by
     have h1:gi=k:=by simpa [Value.ownBlock] using hk
     have h2:=(HlV.out k e).2;have h3:=(Hix.out.lt gi rfl).1;omega))
    have hrowD:=hid (fun W b (h:Grw w5 W bV b)=>h.row Hod.out (fun k hk e=>by
     have h2:=(HlV.out k e).2;have h3:=(Hod.out.lt k hk).1;have:=HsV.out;omega))
    have Hxl:=hid (show ∀t,t<S→nth ((zj c).map (·.2)) t<10001 from fun t ht=>by
     have:=zlp (k:=c) (i:=t) (by rw[←ze1,←HSe.out];exact ht);have:=HNe.out;omega)
    have Hxlen:=hid (show ((zj c).map (·.2)).length=S from by rw[List.length_map,←ze1];exact HSe.out.symm);have Hdat:=hid (show ∀t,t<S→nth (kf (vu c) 0) (2*t)=jd (vu c) 0 t∧nth (kf (vu c) 0) (2*t+1)=(zb (vu c) t).2 - (zb (vu c) t).1 from fun t ht=>zte _ _ _ t (by rw[←HSe.out];exact ht));have Hdlen:=hid (show (kf (vu c) 0).length=2*S from by unfold kf;rw[ze2,←HSe.out])
    have Hend:=hid (show zk c=y8 c d++ja (vu c) ((zj c).map (·.2)) S from by
     unfold zk;rw[←HNe.out,HSe.out,ze1]
     rfl)
    have Hstep:=hid (fun t=>show ja (vu c) ((zj c).map (·.2)) (t+1)=ja (vu c) ((zj c).map (·.2)) t++[jd (vu c) 0 t,(zb (vu c) t).2 - (zb (vu c) t).1,nth ((zj c).map (·.2)) t] from rfl)
    have Hbnd:=hid (fun t (ht:t≤S)=>show (y8 c d++ja (vu c) ((zj c).map (·.2)) t).length≤900000000000 from by
     rw[List.length_append,zeb];have:=HB.out d (Nat.le_refl _);omega)
    have hb15:=Hb5.out.size;have hs15:w1.heap.size≤w5.heap.size:=hb15;have Hfin:=hid (fun W b (h:Grw w5 W bV b)=>show Below w.heap.size w W from Hb1.out.trans ((Hb5.out.trans (h.toBelow hs15 (fun k hk=>(HlV.out k hk).1))).mono Hb1.out.size));have Hb1s:=hid Hb1.out.size;clear hb15 HE HCn Hdf Hk HF HI Hgood Hsl HB Hcan HK HoV4 HoV5 Hix Hix5 Hod Hs4 HsV HlV Hb Hb4 Hb5 Hb0 HDi Hb2 Ho2 HC;generalize (zj c).map (·.2)=XS at*;generalize vu c=LS at*;generalize y8 c d=P0 at*;rcases Nat.eq_zero_or_pos S with hS0 | hS0
    · subst hS0;have HeF:=hid (show OwnB w6 w.heap.size b6 (zk c) from by rw[Hend.out];exact y9 Ho6.out Hb1s.out);have HbF:=hid (Hfin.out _ _ Hg6.out);clear hrowX hrowD Hxl Hdat Hstep Hbnd Hend Hfin Ho6 Hg6;go_wp2;go_loopw [6,13,14,55] (fun b _ _ i wi=>i=.int .i64 0∧b=b6∧wi=w6) (fun _ _ _ _ _=>0)
      case atStart=>exact⟨rfl,rfl,rfl⟩
      case round=>
       obtain⟨rfl,rfl,rfl⟩:=hrel;go_wp2;go_ret2;exact⟨⟨_,rfl,HeF.out⟩,HbF.out⟩
    · obtain⟨gd,cd,rfl,hgd,hgdl,-,-⟩:=zb3 (hrowD.out _ _ Hg6.out) (by omega);go_wp2;go_loopw [6,13,14,55] (fun b _ _ i wi=>∃t:Nat,t≤S∧i=.int .i64 t∧Hid (Grw w5 wi bV b)∧Hid (OwnB wi w1.heap.size b (P0++ja LS XS t))) (fun _ _ _ i _=>S - (intOf i).toNat)
      case atStart=>exact⟨0,by omega,rfl,Hg6,Ho6⟩
      case round=>
       obtain⟨t,ht,rfl,hgi,hoi⟩:=hrel;by_cases htS:t<S
       · have qx:=(hrowX.out _ _ hgi.out).cells (g:=gi) rfl t _ (zgg XS t (by rw[Hxlen.out];exact htS));rw[yp,Nat.zero_add] at qx;have cellsD:=fun W b (h:Grw w5 W bV b) (j:Nat) (hj:j<2*S)=>(hrowD.out W b h).cells (g:=gd) rfl j _ (zen (kf LS 0) j (by rw[Hdlen.out];exact hj))
         obtain⟨d1,d2⟩:=Hdat.out t htS;have hxl:=Hxl.out t htS
         have HD1:=hid (fun W b (h:Grw w5 W bV b)=>show W.cell? ⟨gd,2*t,none⟩=some (.int .u64 ((jd LS 0 t:Nat):Int)) from by
          have:=cellsD W b h (2*t) (by omega);rwa [yp,Nat.zero_add,d1] at this)
         have HD2:=hid (fun W b (h:Grw w5 W bV b)=>show W.cell? ⟨gd,2*t+1,none⟩=some (.int .u64 (((zb LS t).2 - (zb LS t).1:Nat):Int)) from by
          have:=cellsD W b h (2*t+1) (by omega);rwa [yp,Nat.zero_add,d2] at this)
         have l1:=Hdl.out _ (za5 (show 2*t<(kf LS 0).length by rw[Hdlen.out];omega));have l2:=Hdl.out _ (za5 (show 2*t+1<(kf LS 0).length by rw[Hdlen.out];omega));rw[d1] at l1;rw[d2] at l2;have Hst:=hid (Hstep.out t);have Hbt:=hid (Hbnd.out t ht);have hm1:IntKind.i64.wrap (2*(t:Int))=((2*t:Nat):Int):=by rw[IntKind.wrap_i64];omega
         have hm2:IntKind.i64.wrap (((2*t:Nat):Int)+1)=((2*t+1:Nat):Int):=by rw[IntKind.wrap_i64];omega
         have h0:(0:Int)≤t:=by omega
         have h04:(t:Int)<(S:Int):=by omega
         have h1:(0:Int)≤((2*t:Nat):Int):=by omega
         have h14:((2*t:Nat):Int)<((2*S:Nat):Int):=by omega
         have h2:(0:Int)≤((2*t+1:Nat):Int):=by omega
         have h24:((2*t+1:Nat):Int)<((2*S:Nat):Int):=by omega
         have hs0:w1.heap.size≤wr.heap.size:=Nat.le_trans hs15 hgi.out.g.size;have HC1:=hid (ze7 w1.heap.size _ _ (jd LS 0 t) wr l1 hoi.out hs0 (by have:=Hbt.out;omega));have q1:=HD1.out _ _ hgi.out;have hcx:IntKind.u64.wrap ((nth XS t:Nat):Int)=((nth XS t:Nat):Int):=by rw[IntKind.wrap_u64];omega
         clear cellsD d1 d2;generalize jd LS 0 t=n1 at*;generalize (zb LS t).2 - (zb LS t).1=n2 at*;generalize nth XS t=n3 at*;generalize ja LS XS t=P1 at*;generalize h2t:2*t=tt at*;go_wp2_with fail;refine HC1.out.mono ?_;rintro e w7 ⟨b7,rfl,ho7,hg7⟩;have hG7:=hgi.out.trans hg7;have q2:=HD2.out _ _ hG7;have HC2:=hid (ze7 w1.heap.size _ _ n2 w7 l2 ho7 (Nat.le_trans hs15 hG7.g.size) (by have:=Hbt.out;simp only[List.length_append,List.length_cons,List.length_nil] at this ⊢;omega));have HG7:=hid hG7;clear ho7 hg7 hG7 q1;go_wp2_with fail;refine HC2.out.mono ?_;rintro e w8 ⟨b8,rfl,ho8,hg8⟩;have hG8:=HG7.out.trans hg8;have HC3:=hid (ze7 w1.heap.size _ _ n3 w8 (by omega) ho8 (Nat.le_trans hs15 hG8.g.size) (by have:=Hbt.out;simp only[List.length_append,List.length_cons,List.length_nil] at this ⊢;omega));have HG8:=hid hG8;clear ho8 hg8 hG8 q2;go_wp2_with fail;refine HC3.out.mono ?_;rintro e w9 ⟨b9,rfl,ho9,hg9⟩;have HG9:=hid (HG8.out.trans hg9);have Ho9:=hid ho9;clear ho9 hg9;go_wp2;go_roundw
         case rel=>exact⟨t+1,by omega,by go_num,HG9.out,by rw[Hst.out];exact(by simpa using Ho9.out:OwnB _ _ _ (P0++(P1++[n1,n2,n3])))⟩
         case measure=>simp[intOf];omega
       · obtain rfl:t=S:=by omega
         have HeF:=hid (show OwnB wr w.heap.size _ (zk c) from by rw[Hend.out];exact y9 hoi.out Hb1s.out);have HbF:=hid (Hfin.out _ _ hgi.out);go_wp2;go_ret2;exact⟨⟨_,rfl,HeF.out⟩,HbF.out⟩
def GrwE (w w':World) (v:Value):Prop:=∃y,Grw w w' v y
theorem GrwE.drew {w w':World} {v:Value} (h:GrwE w w' v):GrwE w w'.drew v:=h.elim fun y h=>⟨y,h.below (Below.refl _ _).drew⟩
theorem GrwE.alloc {w w':World} {v:Value} (h:GrwE w w' v) (o:Obj):GrwE w (w'.alloc o) v:=h.elim fun y h=>⟨y,h.alloc o⟩
structure EncK (c:Kno):Prop where
 can:CanK c
 lt:LtK c
 vec:∀f∈c,VecFits f.2
 sum:yf c≤1000
 len:c.length≤1000
theorem zlq {c:Kno} (hK:EncK c) (d:Nat) (hd:d≤c.length):(y8 c d).length≤400000000:=by
 have h1:=zow hK.vec d hd;have h2:301000*d≤301000*1000:=Nat.mul_le_mul_left _ (Nat.le_trans hd hK.len);omega
end
end Go.Proofs.YtdnjfnofjaoajaaGreatDoor
