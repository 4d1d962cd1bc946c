/- Texts of the proof of dcssPlays_holds, put together by a small program of ours (names shortened, spaces taken out). No condition beyond the given statement. -/
import Derived.Test.YtgfgglponbmgmaaGreatDCP2
import Derived.Test.YtgfgglponbmgmaaGreatDCP1
import Derived.RangeFuncNested
set_option linter.unusedVariables false
set_option linter.unusedSimpArgs false
set_option linter.unnecessarySimpa false
noncomputable section
section
namespace Go.Proofs.YtgfgglponbmgmaaGreatA.Am
open Go.RowKit (Below)
variable {P:Program} {μ:Mu} {H H':aa} {w:World} {B:Nat}
theorem cO.kill {i:Nat}(h:cO P μ H w B):cO P μ (H.kill i) w B:=by
 have old: ∀{j:Nat} {c:eS},(H.kill i).get j=some c→H.get j=some c:=by
  intro j c hc;by_cases e:j=i
  ·subst e;rw[aa.mj] at hc;cases hc
  ·rw[aa.iU e] at hc;exact hc
 exact⟨h.base,λj c hc=>h.ok j c (old hc),λj hj=>h.BF j (by rw[aa.fT] at hj;exact hj),
  λj k c d l m hc hd=>h.inj j k c d l m (old hc) (old hd),λj c l hc=>h.own j c l (old hc),h.dZ.keep μ.le_refl (λ_ _=>aa.ou) (λ_ _ h _=>h),λk hk=>h.wv k (aa.sY hk).1⟩
theorem AI (wJ:Nat): ∀(r c:Nat),c≤wJ→Builtin.growBy wJ r c≤2*wJ+192
 |0,c,h=>by simp only[Builtin.growBy];omega
 |r+1,c,h=>by
  simp only[Builtin.growBy];split
  ·omega
  ·by_cases hc:c+(c+768)/4≤wJ
   ·exact AI wJ r _ hc
   ·cases r with
    |zero=>simp only[Builtin.growBy];omega
    |succ r=>simp only[Builtin.growBy];rw[if_pos (by omega)];omega
theorem FL {need c:Nat}(h:c<need):Builtin.nextslicecap need c≤2*need+192:=by
 unfold Builtin.nextslicecap;split
 ·omega
 ·split
  ·omega
  ·exact AI need 4 c (by omega)
theorem ov {size n c:Nat}{a:Option Addr}{x':Value}{cs:List Value}(hS:cO P μ H w B)(hx:VR μ (.slice a n c) x'){m:Nat}(hm:m≤n)(h:cI H size m (.slice a n c)=some cs):
  cs.length=m*size∧cs.all aC=true∧∃fi,cU μ cs fi∧∀w2,w2.heap=w.heap→(Builtin.firstCells size m x').run P w2= .ok fi.toArray w2:=by
 unfold cI at h;split at h
 ·rename_i i off _ _ e;cases e;by_cases hm0:m=0
  ·subst hm0;rw[if_pos rfl] at h;cases h;rcases hx.eM with⟨i',NC,fj,l,e,hl,g1,g2,g3,rfl⟩|⟨i',NC,a',e,rfl,rfl,rfl⟩
   ·exact⟨by simp,by simp,[],.nil,λw2 _=>by simp[Builtin.firstCells,loadCells,loadCellsFrom]⟩
   ·exact⟨by simp,by simp,[],.nil,λw2 _=>by simp[Builtin.firstCells,loadCells,loadCellsFrom]⟩
  rw[if_neg hm0] at h;rcases hx.eM with⟨i',NC,fj,l,e,hl,g1,g2,g3,rfl⟩|⟨i',NC,a',e,rfl,rfl,rfl⟩
  ·cases e;obtain⟨hlen,fi,hv,hc⟩:=hS.aQ hl h;refine⟨hlen,hS.NB h,fi,hv,λw2 he=>?_⟩
   have hr:=run_loadCells_list (P:=P) w2 ⟨l.b,l.o+off,none⟩ fi (λj v hj=>by rw[←hc j v hj];simp[World.cell?,he])
   rw[←hv.1,hlen] at hr;exact hr
  ·omega
 ·rename_i e;cases e;obtain⟨rfl,rfl,rfl⟩:=hx.ic;have hm0:m=0:=by omega
  subst hm0;simp only[if_true] at h;cases h;exact⟨by simp,by simp,[],.nil,λw2 _=>by simp[Builtin.firstCells]⟩
 ·cases h
theorem FM {wm qT elem ty:TypeId}{size bytes n sLen sCap:Nat}{i:TypeInfo}{z x x':Value}{new:List Value}(hS:cO P μ H w B)(hx:VR μ x x')(hu:P.underlying wm=some (.slice elem))(hs:jK P elem=some size)(hi:P.info? elem=some i)(hib:i.bytes=bytes)(hz:zeroOf P elem=some z)(h:JU P H qT size bytes z x=some (n,new))(base:Option Addr):
  new.length=n*size∧new.all aC=true∧∃ga,cU μ new ga∧
   (sLen+n≤sCap→(Builtin.append_ #[wm,qT] ty #[.slice base sLen sCap,x']).run P w=
    ((match base with|some a=>storeCells (a.add (sLen*size)) ga|none=>pure ():Sem Unit).run P w).andThen λ_ w=>.ok (.slice base (sLen+n) sCap) w)∧
   (¬sLen+n≤sCap→sLen+n≤4294967296→bytes≤4096→∀ir:List Value,(∀w2,w2.heap=w.heap→(Builtin.firstCells size sLen (.slice base sLen sCap)).run P w2= .ok ir.toArray w2)→
    ∃eN,sLen+n≤eN∧(Builtin.append_ #[wm,qT] ty #[.slice base sLen sCap,x']).run P w=
     .ok (.slice (some ⟨w.heap.size,0,none⟩) (sLen+n) eN) (w.drew.alloc (.cells (ir.toArray++(ga.toArray++Builtin.zeroCells z.cells (eN-(sLen+n)))) elem))):=by
 obtain⟨Fw,pD,m,hm,BI⟩:=dS hz w;rw[hs] at hm;cases hm;have UO: ¬sLen+n≤sCap→sLen+n≤4294967296→bytes≤4096→¬281474976710656<Builtin.nextslicecap (sLen+n) sCap*i.bytes:=by
  intro h1 h2 h3;have h4:=FL (need:=sLen+n) (c:=sCap) (by omega)
  have h5:Builtin.nextslicecap (sLen+n) sCap*i.bytes≤(2*(sLen+n)+192)*4096:=Nat.mul_le_mul h4 (by omega)
  omega
 unfold JU at h;split at h
 ·rename_i k l hxu;split at h
  ·rename_i hc;obtain⟨h0,h1,hby⟩:=hc;cases h;obtain rfl:=hx.int;have hw:IntKind.i64.wrap l=l:=by rw[IntKind.wrap_i64];omega
   have hl0: ¬l<0:=by omega
   have J8: ¬281474976710656<l*(i.bytes:Int):=by
    have h2:(i.bytes:Int)≤4096:=by omega
    have:l*(i.bytes:Int)≤l*4096:=Int.mul_le_mul_of_nonneg_left h2 h0;omega
   have Wd:l.toNat*size=0→bM z.cells.toList l.toNat=[]:=λhe=>List.eq_nil_of_length_eq_zero (by rw[fm];simp[BI,he])
   have hz1: ¬l.toNat*size=0→Builtin.zeroCells z.cells l.toNat=(bM z.cells.toList l.toNat).toArray:=by
    intro he;have dx:z.cells.size≠0:=by rw[BI];intro e;rw[e] at he;simp at he
    rw[←mo _ _ dx]
   refine⟨by rw[fm];simp[BI],mI pD _,_,kM pD _,?_,?_⟩
   ·intro ji;simp[Builtin.append_,run_underlying hu,run_underlying hxu,eC hs,ji,kU hi,asInt,asIntOf,hw,hl0,J8];by_cases he:l.toNat*size=0
    ·rw[if_pos he,Wd he];cases base<;>simp
    ·rw[if_neg he];simp only[(dS hz _).1,Result.andThen_ok,hz1 he];cases base<;>simp
   ·intro ji wI wH ir hold;refine⟨(Question.appendCap (sLen+l.toNat) sCap elem).cut (w.tape w.drawn (Question.appendCap (sLen+l.toNat) sCap elem)),?_,?_⟩
    ·simp[Question.cut]
    ·simp[Builtin.append_,run_underlying hu,run_underlying hxu,eC hs,ji,kU hi,asInt,asIntOf,hw,hl0,J8,(dS hz _).1,Question.forced];rw[if_neg (by omega),if_neg (UO ji wI wH)]
     simp[hold w.drew rfl];by_cases he:l.toNat*size=0
     ·rw[if_pos he,Wd he];simp[newRow]
      try rfl
     ·rw[if_neg he,hz1 he];simp[newRow]
      try rfl
  ·cases h
 ·rename_i e2 a c hxu;rw[Option.map_eq_some_iff] at h;obtain⟨cs,rb,e⟩:=h;cases e;obtain⟨hle,a',c',rfl,_,_⟩:=hx.fh;obtain⟨hlen,wK,fi,hv,dI⟩:=ov (P:=P) hS hx (Nat.le_refl _) rb;refine⟨hlen,wK,fi,hv,?_,?_⟩
  ·intro ji;simp[Builtin.append_,run_underlying hu,run_underlying hxu,eC hs,Builtin.lenOf,ji,dI w rfl];cases base<;>simp
  ·intro ji wI wH ir hold;refine⟨(Question.appendCap (sLen+n) sCap elem).cut (w.tape w.drawn (Question.appendCap (sLen+n) sCap elem)),?_,?_⟩
   ·simp[Question.cut]
   ·simp[Builtin.append_,run_underlying hu,run_underlying hxu,eC hs,Builtin.lenOf,ji,kU hi,(dS hz _).1,Question.forced];rw[if_neg (by omega),if_neg (UO ji wI wH)]
    simp[hold w.drew rfl,dI w.drew rfl];rfl
 ·cases h
theorem uT {z v:Value}(hz:fO z=true){m k:Nat}(h:(Builtin.zeroCells z.cells m)[k]? =some v):cu v=true:=by
 have aah:=Array.mem_of_getElem? h;have hz': ∀x∈z.cells.toList,cu x=true:=by
  intro x hx;cases z with
  |agg cs=>
   simp only[fO,List.all_eq_true] at hz;exact hz x (by simpa[Value.cells] using hx)
  |_=>simp only[Value.cells,List.mem_singleton] at hx;subst hx;exact hz
 unfold Builtin.zeroCells at aah;obtain⟨i,hi,rfl⟩:=Array.mem_map.1 aah;have qt:=Array.mem_range.1 hi;have FN:0<z.cells.size:=by
  rcases Nat.eq_zero_or_pos z.cells.size with h0|h0
  ·rw[h0] at qt;simp at qt
  ·exact h0
 have gF:i%z.cells.size<z.cells.size:=Nat.mod_lt _ FN;rw[getElem!_pos z.cells _ gF];exact hz' _ (by simp)
theorem wL {old new ir ga:List Value}{z:Value}{size sLen n eN:Nat}{elem:TypeId}(hS:cO P μ H w B)(ho:cU μ old ir)(hn:cU μ new ga)(h1:old.all aC=true)(h2:new.all aC=true)(wv:old.length=sLen*size)(hnl:new.length=n*size)(hz:z.cells.size=size)(hzp:fO z=true)(hs0:size≠0)(zW:sLen+n≤eN):
  Told P μ (.slice (some ⟨H.length,0,none⟩) (sLen+n) (sLen+n)) (H.new ⟨old++new,elem,size,false⟩) w B
   (.ok (.slice (some ⟨w.heap.size,0,none⟩) (sLen+n) eN) (w.drew.alloc (.cells (ir.toArray++(ga.toArray++Builtin.zeroCells z.cells (eN-(sLen+n)))) elem))):=by
 have hzl:(Builtin.zeroCells z.cells (eN-(sLen+n))).size=(eN-(sLen+n))*size:=by
  have:=congrArg List.length (mo z.cells (eN-(sLen+n)) (by omega))
  rw[fm] at this;simp at this;rw[this,hz]
 have uS:(ir.toArray++(ga.toArray++Builtin.zeroCells z.cells (eN-(sLen+n)))).size=eN*size:=by
  have h1:=ho.1;have h2:=hn.1;have h3:(sLen+n)*size=sLen*size+n*size:=Nat.add_mul _ _ _;have h4:eN*size=(sLen+n)*size+(eN-(sLen+n))*size:=by rw[←Nat.add_mul];congr 1;omega
  simp[hzl];omega
 have hSd:cO P μ H w.drew B:=hS.heap rfl;obtain⟨g1,g2⟩:=hSd.alloc (old++new) elem elem size (ir.toArray++(ga.toArray++Builtin.zeroCells z.cells (eN-(sLen+n)))) (eN*size) uS.symm (by rw[List.all_append,h1,h2];rfl)
  (by have h1:=ho.1;have h2:=hn.1;simp;omega)
  (by
   have e:(ir.toArray++(ga.toArray++Builtin.zeroCells z.cells (eN-(sLen+n)))).toList=(ir++ga)++(Builtin.zeroCells z.cells (eN-(sLen+n))).toList:=by simp
   rw[e,List.take_append_of_le_length (by have h1:=ho.1;have h2:=hn.1;simp;omega),List.take_of_length_le (by have h1:=ho.1;have h2:=hn.1;simp;omega)]
   exact ho.append hn)
  (by
   intro k v hk Dv;have h1:=ho.1;have h2:=hn.1;rw[Array.getElem?_append_right (by simp at hk ⊢;omega),Array.getElem?_append_right (by simp at hk ⊢;omega)] at Dv
   exact uT hzp Dv)
 refine⟨_,_,_,rfl,g1,?_,g2,((eW.refl _ _).drew).alloc hSd.base _⟩;have:=VR.slice (μ:=μ.up H.length ⟨w.drew.heap.size,0,eN*size,size⟩) H.length 0 (sLen+n) (sLen+n) eN _ Mu.aO (Nat.le_refl _) zW (by simp)
 simpa using this
theorem zX {argTypes:Array TypeId}{ty:TypeId}{s s' x x' v:Value}(hS:cO P μ H w B)(hs:VR μ s s')(hx:VR μ x x')(h:oW P argTypes s x H=some (v,H')):
  Told P μ v H' w B ((Builtin.append_ argTypes ty #[s',x']).run P w):=by
 unfold oW at h;split at h
 ·rename_i wm qT hs0 hx0;have oB:(Builtin.append_ argTypes ty #[s',x'])=(Builtin.append_ #[wm,qT] ty #[s',x']):=by
   unfold Builtin.append_;simp only[hs0,hx0];rfl
  rw[oB];split at h
  ·rename_i elem base sLen sCap hu;split at h
   ·rename_i size bytes z uS hbt hz;obtain⟨i,hi,hib⟩:=qp hbt;obtain⟨_,pD,m,hm,BI⟩:=dS hz w;rw[uS] at hm;cases hm;split at h
    ·rename_i n new hg;obtain⟨aai,wM,wN,rfl,FJ,hcc⟩:=hs.fh;obtain⟨hlen,wK,ga,FO,ji,NH⟩:=FM (ty:=ty) (sLen:=sLen) (sCap:=wN) hS hx hu uS hi hib hz hg wM;have DI:ga.length=n*size:=by rw[←FO.1];exact hlen
     simp only at h;split at h
     ·
      rename_i hle;rw[ji (by omega)]
      cases base with
      |none=>
       obtain⟨rfl,rfl,e⟩:=hs.ic;cases e;simp only at h;cases h;have HJ:n=0:=by omega
       subst HJ;exact Told.same hS hs
      |some ad=>
       obtain⟨i',off,spot⟩:=ad;cases spot with
       |some _=>cases h
       |none=>
        simp only at h;split at h
        ·rename_i HJ;cases h;subst HJ;have:ga=[]:=List.eq_nil_of_length_eq_zero (by rw[DI];simp)
         subst this;rcases hs.eM with⟨i2,nT,BK,l,e,hl,g1,g2,g3,e2⟩|⟨i2,nT,a2,e,rfl,rfl,e2⟩
         ·cases e2;simp only[storeCells,Sem.run_pure,Result.andThen_ok];exact Told.same hS hs
         ·cases e2;simp only[storeCells,Sem.run_pure,Result.andThen_ok];exact Told.same hS hs
        ·rename_i HJ;cases hb:H.get i' with
         |none=>rw[hb] at h;cases h
         |some b=>
          rw[hb] at h;simp only at h;split at h
          ·rename_i hes;rw[Option.map_eq_some_iff] at h;obtain⟨H2,kx,e⟩:=h;cases e;rcases hs.eM with⟨i2,nT,BK,l,e,hl,g1,g2,g3,e2⟩|⟨i2,nT,a2,e,rfl,rfl,e2⟩
           ·cases e;cases e2;obtain⟨w',hr,s9,hB⟩:=hS.st hl kx FO;rw[←Nat.add_assoc, ←jh (l.b) (l.o+off) (sLen*size)] at hr;simp only[hr,Result.andThen_ok];exact⟨_,μ,w',rfl,μ.le_refl,.slice i' off (sLen+n) sCap wN l hl hle hcc g3,s9,hB⟩
           ·omega
          ·cases h
     ·rename_i hle;split at h
      ·rename_i pR;simp only[Bool.and_eq_true,decide_eq_true_eq,ne_eq] at pR;obtain⟨⟨wI,hby⟩,FP⟩:=pR;have FP:size≠0:=by simpa using FP
       cases base with
       |none=>
        obtain⟨rfl,rfl,e⟩:=hs.ic;cases e;simp only[if_true] at h;cases h;obtain⟨eN,zW,dI⟩:=NH hle wI hby [] (λw2 _=>by simp[Builtin.firstCells])
        rw[dI];have:=wL (elem:=elem) (old:=[]) (ir:=[]) (sLen:=0) hS .nil FO rfl wK (by simp) hlen BI pD FP zW
        simpa using this
       |some ad=>
        obtain⟨i',off,spot⟩:=ad;cases spot with
        |some _=>cases h
        |none=>
         simp only at h;cases hb:H.get i' with
         |none=>rw[hb] at h;cases h
         |some b=>
          rw[hb] at h;simp only at h;split at h
          ·rename_i dH;simp only[Bool.and_eq_true,Bool.not_eq_true',beq_iff_eq] at dH;obtain⟨⟨iJ,hes⟩,iP⟩:=dH;cases uU:aQ H i' off (sLen*size) with
           |none=>rw[uU] at h;cases h
           |some old=>
            rw[uU] at h;simp only at h;cases h;rcases hs.eM with⟨i2,nT,BK,l,e,hl,g1,g2,g3,e2⟩|⟨i2,nT,a2,e,rfl,rfl,e2⟩
            ·cases e;cases e2;obtain⟨DO,ir,hold,AE⟩:=hS.aQ hl uU;by_cases HK:sLen+n≤wN
             ·
              obtain⟨m,hm,k⟩:=hS.ok i' b hb;rw[hl] at hm;cases hm;obtain⟨cs,mT,fz,r1,r2,r3,r4,r5⟩:=k.row;obtain rfl:=r3 iJ;have We:l.es=size:=k.es.trans hes;rw[We] at g3;have hmul:(sLen+n)*size≤wN*size:=Nat.mul_le_mul_right _ HK;have ad8:(sLen+n)*size=sLen*size+n*size:=Nat.add_mul _ _ _;have zU: ∀v∈ga,v.oneCell'=true:=FO.DD wK;have q8:=run_storeCells_at (P:=P) l.b (l.o+off+sLen*size) mT ga 0 cs w r1 (by omega) zU
              rw[ji HK];simp only[jh,q8,Result.andThen_ok];have FQ:cU μ (old++new) (((cs.toList.take (l.o+off+sLen*size+0)++ga++cs.toList.drop (l.o+off+sLen*size+0+ga.length)).toArray.toList.drop (l.o+off)).take (old++new).length):=by
               have rb:cs.toList.length=cs.size:=by simp
               have wv:ir.length=sLen*size:=by rw[←hold.1];exact DO
               have e:(((cs.toList.take (l.o+off+sLen*size+0)++ga++cs.toList.drop (l.o+off+sLen*size+0+ga.length)).toArray.toList.drop (l.o+off)).take (old++new).length)=ir++ga:=by
                apply List.ext_getElem?;intro j;simp only[Nat.add_zero,List.getElem?_take,List.getElem?_drop,List.getElem?_append,List.length_append,List.length_take,rb,DO,hlen];by_cases hj:j<ir.length
                ·rw[if_pos (by omega),if_pos (by omega),if_pos (by omega),if_pos (by omega),if_pos hj]
                 have:=AE j ir[j] (List.getElem?_eq_getElem hj)
                 rw[jh] at this;simp only[World.cell?,r1] at this;rw[List.getElem?_eq_getElem hj, ←this];simp
                ·rw[if_neg hj];by_cases fI:j<sLen*size+n*size
                 ·rw[if_pos fI,if_pos (by omega),if_neg (by omega)]
                  congr 1;omega
                 ·rw[if_neg fI,List.getElem?_eq_none (by omega)]
               rw[e];exact hold.append FO
              have Wi: ∀(UM:Array Value) ty3 Wb,(w.setRow l.b (cs.toList.take (l.o+off+sLen*size+0)++ga++cs.toList.drop (l.o+off+sLen*size+0+ga.length)).toArray).heap[l.b]? =some (.cells UM ty3 Wb)→∀(k:Nat) (v:Value),l.o+off+(old++new).length≤k→UM[k]? =some v→cu v=true:=by
               intro UM ty3 Wb g2 j v hj Dv;rw[setRow_heap w l.b cs _ mT (0,0) r1] at g2;cases g2;have rb:cs.toList.length=cs.size:=by simp
               simp only[List.length_append,DO,hlen] at hj;refine(hS.ok i' b hb).elim λl0 hl0=>?_
               obtain⟨e0,k0⟩:=hl0;rw[hl] at e0;cases e0;have q3:(sLen+n)*size=sLen*size+n*size:=Nat.add_mul _ _ _;have q4:sCap*size≤(sLen+n)*size:=Nat.mul_le_mul_right _ (by omega)
               refine k0.spare iJ cs mT (0,0) r1 j v (by omega) ?_
               rw[←Dv];simp only[Nat.add_zero,List.getElem?_toArray,List.getElem?_append,List.length_append,List.length_take,rb,List.getElem?_drop];rw[if_neg (by omega), ←Array.getElem?_toList]
               congr 1;omega
              obtain⟨q1,q2⟩:=hS.move (b':=⟨old++new,elem,size,false⟩) (l':=⟨l.b,l.o+off,l.sz,size⟩) hb iJ hl rfl (λk hk=>setRow_other w l.b k _ hk) (setRow_size _ _ _)
               ⟨rfl,by show(old++new).all aC=true;rw[List.all_append,hS.NB uU,wK];rfl,λ_=>Wi,_,mT,(0,0),setRow_heap w l.b cs _ mT (0,0) r1,by simp;omega,λ_=>rfl,by simp;omega,FQ⟩
              refine⟨_,_,_,rfl,q1,?_,q2,ra (hS.own i' b l hb iJ hl) (λo ho=>by rw[r1] at ho;cases ho;rfl)⟩
              have:=VR.slice (μ:=μ.up H.length ⟨l.b,l.o+off,l.sz,size⟩) H.length 0 (sLen+n) (sLen+n) wN _ Mu.aO (Nat.le_refl _) HK (by simpa using g3)
              simpa using this
             ·obtain⟨eN,zW,dI⟩:=NH HK wI hby ir (λw2 he=>by
               have hr:=run_loadCells_list (P:=P) w2 ⟨l.b,l.o+off,none⟩ ir (λj v hj=>by rw[←AE j v hj];simp[World.cell?,he])
               rw[←hold.1,DO] at hr;exact hr)
              rw[dI];have:=wL (elem:=elem) (hS.kill (i:=i')) hold FO (hS.NB uU) wK DO hlen BI pD FP zW
              rw[aa.fT] at this;exact this
            ·cases e;cases e2;obtain⟨eN,zW,dI⟩:=NH (by omega) wI hby [] (λw2 he=>by simp[Builtin.firstCells,loadCells,loadCellsFrom])
             rw[dI];have aaj:old=[]:=List.eq_nil_of_length_eq_zero (by
              unfold aQ at uU;rw[hb] at uU;simp only at uU;split at uU
              ·cases uU;simp
              ·cases uU)
             subst aaj;have:=wL (elem:=elem) (old:=[]) (ir:=[]) (sLen:=0) (hS.kill (i:=i')) .nil FO rfl wK (by simp) hlen BI pD FP zW
             rw[aa.fT] at this;exact this
          ·cases h
      ·cases h
    ·cases h
   ·cases h
  ·cases h
 ·cases h
variable {P:Program} {μ:Mu} {H H':aa} {w w1:World} {B:Nat}
theorem mF.ne {b:eS}{l:Loc}(h:mF μ w b l){k:Nat}{x:Obj}(hk:w.heap[k]? =some x)(hx:x.isCells=false):l.b≠k:=by
 rintro rfl;obtain⟨cs,ty,fz,h1,_⟩:=h.row;rw[h1] at hk;cases hk;cases hx
theorem cO.km (h:cO P μ H w B)(hw: ∀k,k<w.heap.size→w1.heap[k]? =w.heap[k]?)(hs:w.heap.size≤w1.heap.size){l:Nat}(hl:w.heap.size≤l){o:dD}(ho:mG P μ w1 o l):
  μ.le (μ.up H.length ⟨l,0,0,0⟩)∧cO P (μ.up H.length ⟨l,0,0,0⟩) (H.km o) w1 B:=by
 have hle:=Mu.DC (l:=⟨l,0,0,0⟩) (h.BF H.length (Nat.le_refl _));have back: ∀{i:Nat} {m:Loc},i<H.length→(μ.up H.length ⟨l,0,0,0⟩) i=some m→μ i=some m:=by
  intro i m hi hm
  rwa [Mu.dO (by omega)] at hm
 refine⟨hle,Nat.le_trans h.base hs,?_,?_,?_,?_,?_,λk hk=>by obtain⟨h1,h2⟩:=aa.JY hk;rw[Mu.dO (by omega)];exact h.wv k h1⟩
 ·intro i b hb;have hb:=aa.qY hb;obtain⟨m,h1,h2⟩:=h.ok i b hb;exact⟨m,hle _ _ h1,(h2.mono hle).heap (hw _ h2.lt)⟩
 ·intro i hi;rw[aa.ot] at hi;rw[Mu.dO (by omega)];exact h.BF i (by omega)
 ·intro i j b c m n hb hc hm hn Nj iJ;have hb:=aa.qY hb;have hc:=aa.qY hc;exact h.inj i j b c m n hb hc (back (aa.ar hb) hm) (back (aa.ar hc) hn) Nj iJ
 ·intro i b m hb iJ hm;have hb:=aa.qY hb;exact h.own i b m hb iJ (back (aa.ar hb) hm)
 ·refine⟨?_,?_⟩
  ·intro i p hp;rcases aa.wB hp with⟨rfl,rfl⟩|⟨hi,hp⟩
   ·exact⟨_,Mu.aO,Nat.le_trans h.base hl,ho.mono hle⟩
   ·obtain⟨m,h1,h2,h3⟩:=h.dZ.ok i p hp;exact⟨m,hle _ _ h1,h2,(h3.mono hle).heap (hw _ h3.lt)⟩
  ·intro i j p q m n hp hq hm hn Nj;rcases aa.wB hp with⟨rfl,rfl⟩|⟨hi,FU⟩<;>rcases aa.wB hq with⟨rfl,rfl⟩|⟨hj,qv⟩
   ·exact absurd rfl Nj
   ·rw[Mu.aO] at hm;cases hm;obtain⟨n',e,_,k⟩:=h.dZ.ok j q qv;have e2:=back hj hn;rw[e] at e2;cases e2;have:=k.lt;show l≠n.b;omega
   ·rw[Mu.aO] at hn;cases hn;obtain⟨m',e,_,k⟩:=h.dZ.ok i p FU;have e2:=back hi hm;rw[e] at e2;cases e2;have:=k.lt;show m.b≠l;omega
   ·exact h.dZ.inj i j p q m n FU qv (back hi hm) (back hj hn) Nj
theorem cO.jJ (h:cO P μ H w B){i:Nat}{o o':dD}{l:Loc}{x:Obj}(hi:H.dZ i=some o)(hl:μ i=some l)(ho:mG P μ (w.putObj l.b x) o' l.b):cO P μ (H.jJ i o') (w.putObj l.b x) B:=by
 obtain⟨l',e,hB,dH⟩:=h.dZ.ok i o hi;rw[hl] at e;cases e;obtain⟨y,hy,hyc⟩:=dH.at;have hw: ∀k,k≠l.b→(w.putObj l.b x).heap[k]? =w.heap[k]? :=λk hk=>World.putObj_heap_other hk
 refine⟨by simpa using h.base,?_,λk hk=>h.BF k (by rw[aa.DE] at hk;exact hk),?_,?_,⟨?_,?_⟩,λk hk=>h.wv k (aa.JZ hk).1⟩
 ·intro j b hb;rw[aa.wC hi] at hb;obtain⟨m,h1,h2⟩:=h.ok j b hb;exact⟨m,h1,h2.heap (hw _ (h2.ne hy hyc))⟩
 ·intro j k b c m n hb hc;rw[aa.wC hi] at hb hc;exact h.inj j k b c m n hb hc
 ·intro j b m hb;rw[aa.wC hi] at hb;exact h.own j b m hb
 ·intro j p hp;by_cases e:j=i
  ·subst e;rw[aa.pP (aa.wA hi)] at hp;cases hp;exact⟨l,hl,hB,ho⟩
  ·rw[aa.uo e] at hp;obtain⟨m,h1,h2,h3⟩:=h.dZ.ok j p hp;exact⟨m,h1,h2,h3.heap (hw _ (h.dZ.inj j i p o m l hp hi h1 hl e))⟩
 ·intro j k p q m n hp hq hm hn AD;have old: ∀{j:Nat} {p:dD},(H.jJ i o').dZ j=some p→∃p',H.dZ j=some p':=by
   intro j p hp;by_cases e:j=i
   ·subst e;exact⟨_,hi⟩
   ·rw[aa.uo e] at hp;exact⟨_,hp⟩
  obtain⟨p',hp⟩:=old hp;obtain⟨q',hq⟩:=old hq;exact h.dZ.inj j k p' q' m n hp hq hm hn AD
theorem cO.aak (h:cO P μ H w B){i:Nat}{o:dD}{l:Loc}{x:Obj}(hi:H.dZ i=some o)(hl:μ i=some l):cO P μ (H.kill i) (w.putObj l.b x) B:=by
 obtain⟨l',e,hB,dH⟩:=h.dZ.ok i o hi;rw[hl] at e;cases e;obtain⟨y,hy,hyc⟩:=dH.at;have hw: ∀k,k≠l.b→(w.putObj l.b x).heap[k]? =w.heap[k]? :=λk hk=>World.putObj_heap_other hk
 refine⟨by simpa using h.base,?_,λk hk=>h.BF k (by rw[aa.fT] at hk;exact hk),?_,?_,⟨?_,?_⟩,λk hk=>h.wv k (aa.sY hk).1⟩
 ·intro j b hb;obtain⟨m,h1,h2⟩:=h.ok j b (aa.qZ hb);exact⟨m,h1,h2.heap (hw _ (h2.ne hy hyc))⟩
 ·intro j k b c m n hb hc;exact h.inj j k b c m n (aa.qZ hb) (aa.qZ hc)
 ·intro j b m hb;exact h.own j b m (aa.qZ hb)
 ·intro j p hp;have e:j≠i:=by rintro rfl;rw[aa.pQ] at hp;cases hp
  have hp:=aa.ou hp;obtain⟨m,h1,h2,h3⟩:=h.dZ.ok j p hp;exact⟨m,h1,h2,h3.heap (hw _ (h.dZ.inj j i p o m l hp hi h1 hl e))⟩
 ·intro j k p q m n hp hq;exact h.dZ.inj j k p q m n (aa.ou hp) (aa.ou hq)
theorem cO.Rr (h:cO P μ H w B){D:Nat}{x y:Obj}(hD:w.heap[D]? =some y)(h1:y.isCells=false)(h2: ∀r,y≠ .loop r)(h3: ∀es c,y≠ .map es c):cO P μ H (w.putObj D x) B:=by
 have hw: ∀k,k≠D→(w.putObj D x).heap[k]? =w.heap[k]? :=λk hk=>World.putObj_heap_other hk
 refine⟨by simpa using h.base,?_,h.BF,h.inj,h.own,⟨?_,h.dZ.inj⟩,h.wv⟩
 ·intro j b hb;obtain⟨m,h4,h5⟩:=h.ok j b hb;exact⟨m,h4,h5.heap (hw _ (h5.ne hD h1))⟩
 ·intro j p hp;obtain⟨m,h4,h5,h6⟩:=h.dZ.ok j p hp;refine⟨m,h4,h5,h6.heap (hw _ ?_)⟩;rintro rfl;cases p with
  |loop L s=>obtain⟨r,N,g,_⟩:=h6;rw[hD] at g;cases g;exact h2 r rfl
  |Fv k es=>obtain⟨ms,c,g,_⟩:=h6;rw[hD] at g;cases g;exact h3 _ _ rfl
theorem mZ {D:Nat}{x y:Obj}(hD:w.heap[D]? =some y)(hB:B≤D):Below B w (w.putObj D x):=
 (Below.refl B w).grown (grownBy_putObj' w D x) (by have:=(Array.getElem?_eq_some_iff.1 hD).1;omega) (λk e=>by cases e;omega)
theorem eW.rp {l:Nat}{r r':Loop}(hl:w.heap[l]? =some (.loop r))(hB:B≤l)(hd:r'.defers=r.defers):eW B w (w.putObj l (.loop r')):=by
 have gF:=(Array.getElem?_eq_some_iff.1 hl).1;refine⟨mZ hl hB,?_,?_,by simp⟩
 ·intro b r0 hb;by_cases e:b=l
  ·subst e;rw[hl] at hb;cases hb;exact⟨r',World.putObj_heap_same gF,hd⟩
  ·exact⟨r0,by rw[World.putObj_heap_other e];exact hb,rfl⟩
 ·intro b hb;have e:b≠l:=by rintro rfl;rw[hl] at hb;cases hb
  rw[World.putObj_heap_other e];exact hb
theorem eW.BL {l:Nat}{es es':Array MapEntry}{c c':Nat}(hl:w.heap[l]? =some (.map es c))(hB:B≤l):eW B w (w.putObj l (.map es' c')):=by
 refine⟨mZ hl hB,?_,?_,by simp⟩
 ·intro b r0 hb;have e:b≠l:=by rintro rfl;rw[hl] at hb;cases hb
  exact⟨r0,by rw[World.putObj_heap_other e];exact hb,rfl⟩
 ·intro b hb;have e:b≠l:=by rintro rfl;rw[hl] at hb;cases hb
  rw[World.putObj_heap_other e];exact hb
theorem eW.Wj {w0:World}{D:Nat}{x:Obj}(h:eW B w0 w)(hl:w.heap[D]? =some (.deferred (some [])))(hB:B≤D)(hD:w0.heap.size≤D):eW B w0 (w.putObj D x):=by
 refine⟨h.below.trans (mZ hl hB),?_,?_,by simpa using h.size⟩
 ·intro b r0 hb;have:=(Array.getElem?_eq_some_iff.1 hb).1
  rw[World.putObj_heap_other (by omega)];exact h.loops b r0 hb
 ·intro b hb;have:=(Array.getElem?_eq_some_iff.1 hb).1
  rw[World.putObj_heap_other (by omega)];exact h.dfr b hb
abbrev UP (D:Nat):Deferred:={target:=.collected D,args:=#[]}
def Marks (w w':World)(a a':Act):Prop:=
 ∃Ds:List Nat,a'.defers=Ds.map UP++a.defers∧Ds.Nodup∧∀D∈Ds,w.heap.size≤D∧w'.heap[D]? =some (.deferred (some []))
theorem Marks.of_eq {w w':World}{a a':Act}(h:a'.defers=a.defers):Marks w w' a a':=⟨[],by simpa using h,List.nodup_nil,λD hD=>by cases hD⟩
theorem Marks.trans {w w1 w':World}{a a1 a':Act}(h:Marks w w1 a a1)(hb:eW B w w1)(NJ:eW B w1 w')(k:Marks w1 w' a1 a'):Marks w w' a a':=by
 obtain⟨Ds,h1,h2,h3⟩:=h;obtain⟨Es,k1,k2,k3⟩:=k;refine⟨Es++Ds,by rw[k1,h1];simp,?_,?_⟩
 ·rw[List.nodup_append];refine⟨k2,h2,λx hx y hy e=>?_⟩
  subst e;have:=(k3 x hx).1
  have:=(Array.getElem?_eq_some_iff.1 (h3 x hy).2).1
  omega
 ·intro D hD;rcases List.mem_append.1 hD with hD|hD
  ·exact⟨Nat.le_trans hb.size (k3 D hD).1,(k3 D hD).2⟩
  ·exact⟨(h3 D hD).1,NJ.dfr D (h3 D hD).2⟩
theorem FV {ro:Option Nat}(iJ: ∀l₀,ro=some l₀→∃r,w.heap[l₀]? =some (.loop r))(h:cO P μ H w B)(fn:FuncId)(a:Act)(ps:Array Tmp)(x y:Code):
  ∃(l:Nat) (mk:List Deferred) (w1:World) (r:Loop),(Instr.enterLoop fn a.tmps ps x y ro).run P w= .ok (l,mk) w1∧w1.heap[l]? =some (.loop r)∧r.params=ps∧r.assign=x∧r.body=y∧r.tmps=a.tmps∧r.state= .ready∧r.pending=none∧
   w.heap.size≤l∧eW B w w1∧(∀k,k<w.heap.size→w1.heap[k]? =w.heap[k]?)∧Marks w w1 a {a with defers:=mk++a.defers}:=by
 cases ro with
 |none=>
  refine⟨_,_,_,{state:=.ready,pending:=none,fn,tmps:=a.tmps,params:=ps,assign:=x,body:=y,defers:=w.heap.size},run_enterLoop_outer fn a.tmps ps x y,?_,rfl,rfl,rfl,rfl,rfl,rfl,by omega,?_,?_,?_⟩
  ·have:=World.alloc_heap_new (w.alloc (.deferred (some []))) (.loop {state:=.ready,pending:=none,fn,tmps:=a.tmps,params:=ps,assign:=x,body:=y,defers:=w.heap.size})
   rwa [World.size_alloc] at this
  ·exact((eW.refl B w).alloc h.base _).alloc (by have:=h.base;simp;omega) _
  ·intro k hk;rw[Below.heap_alloc _ _ _ (by simp;omega),Below.heap_alloc _ _ _ hk]
  ·refine⟨[w.heap.size],rfl,by simp,λD hD=>?_⟩
   simp only[List.mem_singleton] at hD;subst hD;refine⟨Nat.le_refl _,?_⟩;rw[Below.heap_alloc _ _ _ (by simp)];exact World.alloc_heap_new w _
 |some l₀=>
  obtain⟨r₀,hr⟩:=iJ l₀ rfl;refine⟨_,_,_,{state:=.ready,pending:=none,fn,tmps:=a.tmps,params:=ps,assign:=x,body:=y,defers:=r₀.defers},run_enterLoop_inner hr fn a.tmps ps x y,?_,rfl,rfl,rfl,rfl,rfl,rfl,Nat.le_refl _,(eW.refl B w).alloc h.base _,λk hk=>Below.heap_alloc _ _ _ hk,Marks.of_eq (by simp)⟩
  exact World.alloc_heap_new w _
end Go.Proofs.YtgfgglponbmgmaaGreatA.Am
end
