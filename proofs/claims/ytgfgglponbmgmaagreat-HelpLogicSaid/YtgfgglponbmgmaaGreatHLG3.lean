/- Texts of the proof of helpLogic_holds, put together by a small program of ours (names shortened, spaces taken out). No condition beyond the given statement. -/
import Derived.Test.YtgfgglponbmgmaaGreatHLG2
import Derived.Test.YtgfgglponbmgmaaGreatHLG1
import Derived.RangeFuncNested
set_option linter.unusedVariables false
set_option linter.unusedSimpArgs false
set_option linter.unnecessarySimpa false
noncomputable section
section
namespace Go.Proofs.YtgfgglponbmgmaaGreatA.Am
open Go.RowKit (Below)
variable {P:Program} {μ:Mu} {H H':aa} {w:World} {B:Nat}
theorem cJ.kill {i:Nat}(h:cJ P μ H w B):cJ P μ (H.kill i) w B:=by
 have old: ∀{j:Nat} {c:eM},(H.kill i).get j=some c→H.get j=some c:=by
  intro j c hc;by_cases e:j=i
  ·subst e;rw[aa.lV] at hc;cases hc
  ·rw[aa.iP e] at hc;exact hc
 exact⟨h.base,λj c hc=>h.ok j c (old hc),λj hj=>h.Bf j (by rw[aa.fQ] at hj;exact hj),
  λj k c d l m hc hd=>h.inj j k c d l m (old hc) (old hd),λj c l hc=>h.own j c l (old hc),h.dT.keep μ.le_refl (λ_ _=>aa.oq) (λ_ _ h _=>h),λk hk=>h.vN k (aa.sL hk).1⟩
theorem Ae (vX:Nat): ∀(r c:Nat),c≤vX→Builtin.growBy vX r c≤2*vX+192
 |0,c,h=>by simp only[Builtin.growBy];omega
 |r+1,c,h=>by
  simp only[Builtin.growBy];split
  ·omega
  ·by_cases hc:c+(c+768)/4≤vX
   ·exact Ae vX r _ hc
   ·cases r with
    |zero=>simp only[Builtin.growBy];omega
    |succ r=>simp only[Builtin.growBy];rw[if_pos (by omega)];omega
theorem ES {need c:Nat}(h:c<need):Builtin.nextslicecap need c≤2*need+192:=by
 unfold Builtin.nextslicecap;split
 ·omega
 ·split
  ·omega
  ·exact Ae need 4 c (by omega)
theorem adS {size n c:Nat}{a:Option Addr}{x':Value}{cs:List Value}(hS:cJ P μ H w B)(hx:VR μ (.slice a n c) x'){m:Nat}(hm:m≤n)(h:cF H size m (.slice a n c)=some cs):
  cs.length=m*size∧cs.all aD=true∧∃eX,cT μ cs eX∧∀w2,w2.heap=w.heap→(Builtin.firstCells size m x').run P w2= .ok eX.toArray w2:=by
 unfold cF at h;split at h
 ·rename_i i off _ _ e;cases e;by_cases hm0:m=0
  ·subst hm0;rw[if_pos rfl] at h;cases h;rcases hx.eD with⟨i',Ml,eY,l,e,hl,g1,g2,g3,rfl⟩|⟨i',Ml,a',e,rfl,rfl,rfl⟩
   ·exact⟨by simp,by simp,[],.nil,λw2 _=>by simp[Builtin.firstCells,loadCells,loadCellsFrom]⟩
   ·exact⟨by simp,by simp,[],.nil,λw2 _=>by simp[Builtin.firstCells,loadCells,loadCellsFrom]⟩
  rw[if_neg hm0] at h;rcases hx.eD with⟨i',Ml,eY,l,e,hl,g1,g2,g3,rfl⟩|⟨i',Ml,a',e,rfl,rfl,rfl⟩
  ·cases e;obtain⟨hlen,eX,hv,hc⟩:=hS.aR hl h;refine⟨hlen,hS.Mj h,eX,hv,λw2 he=>?_⟩
   have hr:=run_loadCells_list (P:=P) w2 ⟨l.b,l.o+off,none⟩ eX (λj v hj=>by rw[←hc j v hj];simp[World.cell?,he])
   rw[←hv.1,hlen] at hr;exact hr
  ·omega
 ·rename_i e;cases e;obtain⟨rfl,rfl,rfl⟩:=hx.gZ;have hm0:m=0:=by omega
  subst hm0;simp only[if_true] at h;cases h;exact⟨by simp,by simp,[],.nil,λw2 _=>by simp[Builtin.firstCells]⟩
 ·cases h
theorem ET {vK qM elem ty:TypeId}{size bytes n sLen sCap:Nat}{i:TypeInfo}{z x x':Value}{new:List Value}(hS:cJ P μ H w B)(hx:VR μ x x')(hu:P.underlying vK=some (.slice elem))(hs:jB P elem=some size)(hi:P.info? elem=some i)(hib:i.bytes=bytes)(hz:zeroOf P elem=some z)(h:IK P H qM size bytes z x=some (n,new))(base:Option Addr):
  new.length=n*size∧new.all aD=true∧∃fX,cT μ new fX∧
   (sLen+n≤sCap→(Builtin.append_ #[vK,qM] ty #[.slice base sLen sCap,x']).run P w=
    ((match base with|some a=>storeCells (a.add (sLen*size)) fX|none=>pure ():Sem Unit).run P w).andThen λ_ w=>.ok (.slice base (sLen+n) sCap) w)∧
   (¬sLen+n≤sCap→sLen+n≤4294967296→bytes≤4096→∀hX:List Value,(∀w2,w2.heap=w.heap→(Builtin.firstCells size sLen (.slice base sLen sCap)).run P w2= .ok hX.toArray w2)→
    ∃eE,sLen+n≤eE∧(Builtin.append_ #[vK,qM] ty #[.slice base sLen sCap,x']).run P w=
     .ok (.slice (some ⟨w.heap.size,0,none⟩) (sLen+n) eE) (w.drew.alloc (.cells (hX.toArray++(fX.toArray++Builtin.zeroCells z.cells (eE-(sLen+n)))) elem))):=by
 obtain⟨EF,pH,m,hm,Bi⟩:=dN hz w;rw[hs] at hm;cases hm;have SV: ¬sLen+n≤sCap→sLen+n≤4294967296→bytes≤4096→¬281474976710656<Builtin.nextslicecap (sLen+n) sCap*i.bytes:=by
  intro h1 h2 h3;have h4:=ES (need:=sLen+n) (c:=sCap) (by omega)
  have h5:Builtin.nextslicecap (sLen+n) sCap*i.bytes≤(2*(sLen+n)+192)*4096:=Nat.mul_le_mul h4 (by omega)
  omega
 unfold IK at h;split at h
 ·rename_i k l YS;split at h
  ·rename_i hc;obtain⟨h0,h1,hby⟩:=hc;cases h;obtain rfl:=hx.int;have hw:IntKind.i64.wrap l=l:=by rw[IntKind.wrap_i64];omega
   have YT: ¬l<0:=by omega
   have IU: ¬281474976710656<l*(i.bytes:Int):=by
    have h2:(i.bytes:Int)≤4096:=by omega
    have:l*(i.bytes:Int)≤l*4096:=Int.mul_le_mul_of_nonneg_left h2 h0;omega
   have Ue:l.toNat*size=0→bK z.cells.toList l.toNat=[]:=λhe=>List.eq_nil_of_length_eq_zero (by rw[eZ];simp[Bi,he])
   have Yi: ¬l.toNat*size=0→Builtin.zeroCells z.cells l.toNat=(bK z.cells.toList l.toNat).toArray:=by
    intro he;have dy:z.cells.size≠0:=by rw[Bi];intro e;rw[e] at he;simp at he
    rw[←lY _ _ dy]
   refine⟨by rw[eZ];simp[Bi],mA pH _,_,kI pH _,?_,?_⟩
   ·intro jb;simp[Builtin.append_,run_underlying hu,run_underlying YS,eh hs,jb,kM hi,asInt,asIntOf,hw,YT,IU];by_cases he:l.toNat*size=0
    ·rw[if_pos he,Ue he];cases base<;>simp
    ·rw[if_neg he];simp only[(dN hz _).1,Result.andThen_ok,Yi he];cases base<;>simp
   ·intro jb vW vV hX hold;refine⟨(Question.appendCap (sLen+l.toNat) sCap elem).cut (w.tape w.drawn (Question.appendCap (sLen+l.toNat) sCap elem)),?_,?_⟩
    ·simp[Question.cut]
    ·simp[Builtin.append_,run_underlying hu,run_underlying YS,eh hs,jb,kM hi,asInt,asIntOf,hw,YT,IU,(dN hz _).1,Question.forced];rw[if_neg (by omega),if_neg (SV jb vW vV)]
     simp[hold w.drew rfl];by_cases he:l.toNat*size=0
     ·rw[if_pos he,Ue he];simp[newRow]
      try rfl
     ·rw[if_neg he,Yi he];simp[newRow]
      try rfl
  ·cases h
 ·rename_i e2 a c YS;rw[Option.map_eq_some_iff] at h;obtain⟨cs,qX,e⟩:=h;cases e;obtain⟨hle,a',c',rfl,_,_⟩:=hx.eW;obtain⟨hlen,vY,eX,hv,dF⟩:=adS (P:=P) hS hx (Nat.le_refl _) qX;refine⟨hlen,vY,eX,hv,?_,?_⟩
  ·intro jb;simp[Builtin.append_,run_underlying hu,run_underlying YS,eh hs,Builtin.lenOf,jb,dF w rfl];cases base<;>simp
  ·intro jb vW vV hX hold;refine⟨(Question.appendCap (sLen+n) sCap elem).cut (w.tape w.drawn (Question.appendCap (sLen+n) sCap elem)),?_,?_⟩
   ·simp[Question.cut]
   ·simp[Builtin.append_,run_underlying hu,run_underlying YS,eh hs,Builtin.lenOf,jb,kM hi,(dN hz _).1,Question.forced];rw[if_neg (by omega),if_neg (SV jb vW vV)]
    simp[hold w.drew rfl,dF w.drew rfl];rfl
 ·cases h
theorem ur {z v:Value}(hz:fJ z=true){m k:Nat}(h:(Builtin.zeroCells z.cells m)[k]? =some v):cp v=true:=by
 have YU:=Array.mem_of_getElem? h;have hz': ∀x∈z.cells.toList,cp x=true:=by
  intro x hx;cases z with
  |agg cs=>
   simp only[fJ,List.all_eq_true] at hz;exact hz x (by simpa[Value.cells] using hx)
  |_=>simp only[Value.cells,List.mem_singleton] at hx;subst hx;exact hz
 unfold Builtin.zeroCells at YU;obtain⟨i,hi,rfl⟩:=Array.mem_map.1 YU;have sO:=Array.mem_range.1 hi;have EU:0<z.cells.size:=by
  rcases Nat.eq_zero_or_pos z.cells.size with h0|h0
  ·rw[h0] at sO;simp at sO
  ·exact h0
 have gB:i%z.cells.size<z.cells.size:=Nat.mod_lt _ EU;rw[getElem!_pos z.cells _ gB];exact hz' _ (by simp)
theorem vZ {old new hX fX:List Value}{z:Value}{size sLen n eE:Nat}{elem:TypeId}(hS:cJ P μ H w B)(ho:cT μ old hX)(hn:cT μ new fX)(h1:old.all aD=true)(h2:new.all aD=true)(vN:old.length=sLen*size)(hnl:new.length=n*size)(hz:z.cells.size=size)(hzp:fJ z=true)(hs0:size≠0)(zm:sLen+n≤eE):
  Told P μ (.slice (some ⟨H.length,0,none⟩) (sLen+n) (sLen+n)) (H.new ⟨old++new,elem,size,false⟩) w B
   (.ok (.slice (some ⟨w.heap.size,0,none⟩) (sLen+n) eE) (w.drew.alloc (.cells (hX.toArray++(fX.toArray++Builtin.zeroCells z.cells (eE-(sLen+n)))) elem))):=by
 have hzl:(Builtin.zeroCells z.cells (eE-(sLen+n))).size=(eE-(sLen+n))*size:=by
  have:=congrArg List.length (lY z.cells (eE-(sLen+n)) (by omega))
  rw[eZ] at this;simp at this;rw[this,hz]
 have uq:(hX.toArray++(fX.toArray++Builtin.zeroCells z.cells (eE-(sLen+n)))).size=eE*size:=by
  have h1:=ho.1;have h2:=hn.1;have h3:(sLen+n)*size=sLen*size+n*size:=Nat.add_mul _ _ _;have h4:eE*size=(sLen+n)*size+(eE-(sLen+n))*size:=by rw[←Nat.add_mul];congr 1;omega
  simp[hzl];omega
 have hSd:cJ P μ H w.drew B:=hS.heap rfl;obtain⟨g1,g2⟩:=hSd.alloc (old++new) elem elem size (hX.toArray++(fX.toArray++Builtin.zeroCells z.cells (eE-(sLen+n)))) (eE*size) uq.symm (by rw[List.all_append,h1,h2];rfl)
  (by have h1:=ho.1;have h2:=hn.1;simp;omega)
  (by
   have e:(hX.toArray++(fX.toArray++Builtin.zeroCells z.cells (eE-(sLen+n)))).toList=(hX++fX)++(Builtin.zeroCells z.cells (eE-(sLen+n))).toList:=by simp
   rw[e,List.take_append_of_le_length (by have h1:=ho.1;have h2:=hn.1;simp;omega),List.take_of_length_le (by have h1:=ho.1;have h2:=hn.1;simp;omega)]
   exact ho.append hn)
  (by
   intro k v hk CW;have h1:=ho.1;have h2:=hn.1;rw[Array.getElem?_append_right (by simp at hk ⊢;omega),Array.getElem?_append_right (by simp at hk ⊢;omega)] at CW
   exact ur hzp CW)
 refine⟨_,_,_,rfl,g1,?_,g2,((eN.refl _ _).drew).alloc hSd.base _⟩;have:=VR.slice (μ:=μ.up H.length ⟨w.drew.heap.size,0,eE*size,size⟩) H.length 0 (sLen+n) (sLen+n) eE _ Mu.aP (Nat.le_refl _) zm (by simp)
 simpa using this
theorem zn {argTypes:Array TypeId}{ty:TypeId}{s s' x x' v:Value}(hS:cJ P μ H w B)(hs:VR μ s s')(hx:VR μ x x')(h:oW P argTypes s x H=some (v,H')):
  Told P μ v H' w B ((Builtin.append_ argTypes ty #[s',x']).run P w):=by
 unfold oW at h;split at h
 ·rename_i vK qM hs0 hx0;have ou:(Builtin.append_ argTypes ty #[s',x'])=(Builtin.append_ #[vK,qM] ty #[s',x']):=by
   unfold Builtin.append_;simp only[hs0,hx0];rfl
  rw[ou];split at h
  ·rename_i elem base sLen sCap hu;split at h
   ·rename_i size bytes z uq hbt hz;obtain⟨i,hi,hib⟩:=qt hbt;obtain⟨_,pH,m,hm,Bi⟩:=dN hz w;rw[uq] at hm;cases hm;split at h
    ·rename_i n new hg;obtain⟨YV,wa,we,rfl,EP,hcc⟩:=hs.eW;obtain⟨hlen,vY,fX,EV,jb,Mp⟩:=ET (ty:=ty) (sLen:=sLen) (sCap:=we) hS hx hu uq hi hib hz hg wa;have Dc:fX.length=n*size:=by rw[←EV.1];exact hlen
     simp only at h;split at h
     ·
      rename_i hle;rw[jb (by omega)]
      cases base with
      |none=>
       obtain⟨rfl,rfl,e⟩:=hs.gZ;cases e;simp only at h;cases h;have Gs:n=0:=by omega
       subst Gs;exact Told.same hS hs
      |some ad=>
       obtain⟨i',off,spot⟩:=ad;cases spot with
       |some _=>cases h
       |none=>
        simp only at h;split at h
        ·rename_i Gs;cases h;subst Gs;have:fX=[]:=List.eq_nil_of_length_eq_zero (by rw[Dc];simp)
         subst this;rcases hs.eD with⟨i2,nN,Bl,l,e,hl,g1,g2,g3,e2⟩|⟨i2,nN,a2,e,rfl,rfl,e2⟩
         ·cases e2;simp only[storeCells,Sem.run_pure,Result.andThen_ok];exact Told.same hS hs
         ·cases e2;simp only[storeCells,Sem.run_pure,Result.andThen_ok];exact Told.same hS hs
        ·rename_i Gs;cases hb:H.get i' with
         |none=>rw[hb] at h;cases h
         |some b=>
          rw[hb] at h;simp only at h;split at h
          ·rename_i YN;rw[Option.map_eq_some_iff] at h;obtain⟨H2,mj,e⟩:=h;cases e;rcases hs.eD with⟨i2,nN,Bl,l,e,hl,g1,g2,g3,e2⟩|⟨i2,nN,a2,e,rfl,rfl,e2⟩
           ·cases e;cases e2;obtain⟨w',hr,sN,hB⟩:=hS.st hl mj EV;rw[←Nat.add_assoc, ←ja (l.b) (l.o+off) (sLen*size)] at hr;simp only[hr,Result.andThen_ok];exact⟨_,μ,w',rfl,μ.le_refl,.slice i' off (sLen+n) sCap we l hl hle hcc g3,sN,hB⟩
           ·omega
          ·cases h
     ·rename_i hle;split at h
      ·rename_i pX;simp only[Bool.and_eq_true,decide_eq_true_eq,ne_eq] at pX;obtain⟨⟨vW,hby⟩,EW⟩:=pX;have EW:size≠0:=by simpa using EW
       cases base with
       |none=>
        obtain⟨rfl,rfl,e⟩:=hs.gZ;cases e;simp only[if_true] at h;cases h;obtain⟨eE,zm,dF⟩:=Mp hle vW hby [] (λw2 _=>by simp[Builtin.firstCells])
        rw[dF];have:=vZ (elem:=elem) (old:=[]) (hX:=[]) (sLen:=0) hS .nil EV rfl vY (by simp) hlen Bi pH EW zm
        simpa using this
       |some ad=>
        obtain⟨i',off,spot⟩:=ad;cases spot with
        |some _=>cases h
        |none=>
         simp only at h;cases hb:H.get i' with
         |none=>rw[hb] at h;cases h
         |some b=>
          rw[hb] at h;simp only at h;split at h
          ·rename_i eA;simp only[Bool.and_eq_true,Bool.not_eq_true',beq_iff_eq] at eA;obtain⟨⟨iB,YN⟩,iJ⟩:=eA;cases uu:aR H i' off (sLen*size) with
           |none=>rw[uu] at h;cases h
           |some old=>
            rw[uu] at h;simp only at h;cases h;rcases hs.eD with⟨i2,nN,Bl,l,e,hl,g1,g2,g3,e2⟩|⟨i2,nN,a2,e,rfl,rfl,e2⟩
            ·cases e;cases e2;obtain⟨Di,hX,hold,Aa⟩:=hS.aR hl uu;by_cases Gt:sLen+n≤we
             ·
              obtain⟨m,hm,k⟩:=hS.ok i' b hb;rw[hl] at hm;cases hm;obtain⟨cs,nE,fz,r1,r2,r3,r4,r5⟩:=k.row;obtain rfl:=r3 iB;have Uf:l.es=size:=k.es.trans YN;rw[Uf] at g3;have hmul:(sLen+n)*size≤we*size:=Nat.mul_le_mul_right _ Gt;have ado:(sLen+n)*size=sLen*size+n*size:=Nat.add_mul _ _ _;have zj: ∀v∈fX,v.oneCell'=true:=EV.C7 vY;have qU:=run_storeCells_at (P:=P) l.b (l.o+off+sLen*size) nE fX 0 cs w r1 (by omega) zj
              rw[jb Gt];simp only[ja,qU,Result.andThen_ok];have EX:cT μ (old++new) (((cs.toList.take (l.o+off+sLen*size+0)++fX++cs.toList.drop (l.o+off+sLen*size+0+fX.length)).toArray.toList.drop (l.o+off)).take (old++new).length):=by
               have qX:cs.toList.length=cs.size:=by simp
               have vN:hX.length=sLen*size:=by rw[←hold.1];exact Di
               have e:(((cs.toList.take (l.o+off+sLen*size+0)++fX++cs.toList.drop (l.o+off+sLen*size+0+fX.length)).toArray.toList.drop (l.o+off)).take (old++new).length)=hX++fX:=by
                apply List.ext_getElem?;intro j;simp only[Nat.add_zero,List.getElem?_take,List.getElem?_drop,List.getElem?_append,List.length_append,List.length_take,qX,Di,hlen];by_cases hj:j<hX.length
                ·rw[if_pos (by omega),if_pos (by omega),if_pos (by omega),if_pos (by omega),if_pos hj]
                 have:=Aa j hX[j] (List.getElem?_eq_getElem hj)
                 rw[ja] at this;simp only[World.cell?,r1] at this;rw[List.getElem?_eq_getElem hj, ←this];simp
                ·rw[if_neg hj];by_cases fH:j<sLen*size+n*size
                 ·rw[if_pos fH,if_pos (by omega),if_neg (by omega)]
                  congr 1;omega
                 ·rw[if_neg fH,List.getElem?_eq_none (by omega)]
               rw[e];exact hold.append EV
              have Uj: ∀(SU:Array Value) ty3 Uc,(w.setRow l.b (cs.toList.take (l.o+off+sLen*size+0)++fX++cs.toList.drop (l.o+off+sLen*size+0+fX.length)).toArray).heap[l.b]? =some (.cells SU ty3 Uc)→∀(k:Nat) (v:Value),l.o+off+(old++new).length≤k→SU[k]? =some v→cp v=true:=by
               intro SU ty3 Uc g2 j v hj CW;rw[setRow_heap w l.b cs _ nE (0,0) r1] at g2;cases g2;have qX:cs.toList.length=cs.size:=by simp
               simp only[List.length_append,Di,hlen] at hj;refine(hS.ok i' b hb).elim λl0 YT=>?_
               obtain⟨e0,k0⟩:=YT;rw[hl] at e0;cases e0;have q3:(sLen+n)*size=sLen*size+n*size:=Nat.add_mul _ _ _;have q4:sCap*size≤(sLen+n)*size:=Nat.mul_le_mul_right _ (by omega)
               refine k0.spare iB cs nE (0,0) r1 j v (by omega) ?_
               rw[←CW];simp only[Nat.add_zero,List.getElem?_toArray,List.getElem?_append,List.length_append,List.length_take,qX,List.getElem?_drop];rw[if_neg (by omega), ←Array.getElem?_toList]
               congr 1;omega
              obtain⟨q1,q2⟩:=hS.move (b':=⟨old++new,elem,size,false⟩) (l':=⟨l.b,l.o+off,l.sz,size⟩) hb iB hl rfl (λk hk=>setRow_other w l.b k _ hk) (setRow_size _ _ _)
               ⟨rfl,by show(old++new).all aD=true;rw[List.all_append,hS.Mj uu,vY];rfl,λ_=>Uj,_,nE,(0,0),setRow_heap w l.b cs _ nE (0,0) r1,by simp;omega,λ_=>rfl,by simp;omega,EX⟩
              refine⟨_,_,_,rfl,q1,?_,q2,qW (hS.own i' b l hb iB hl) (λo ho=>by rw[r1] at ho;cases ho;rfl)⟩
              have:=VR.slice (μ:=μ.up H.length ⟨l.b,l.o+off,l.sz,size⟩) H.length 0 (sLen+n) (sLen+n) we _ Mu.aP (Nat.le_refl _) Gt (by simpa using g3)
              simpa using this
             ·obtain⟨eE,zm,dF⟩:=Mp Gt vW hby hX (λw2 he=>by
               have hr:=run_loadCells_list (P:=P) w2 ⟨l.b,l.o+off,none⟩ hX (λj v hj=>by rw[←Aa j v hj];simp[World.cell?,he])
               rw[←hold.1,Di] at hr;exact hr)
              rw[dF];have:=vZ (elem:=elem) (hS.kill (i:=i')) hold EV (hS.Mj uu) vY Di hlen Bi pH EW zm
              rw[aa.fQ] at this;exact this
            ·cases e;cases e2;obtain⟨eE,zm,dF⟩:=Mp (by omega) vW hby [] (λw2 he=>by simp[Builtin.firstCells,loadCells,loadCellsFrom])
             rw[dF];have YW:old=[]:=List.eq_nil_of_length_eq_zero (by
              unfold aR at uu;rw[hb] at uu;simp only at uu;split at uu
              ·cases uu;simp
              ·cases uu)
             subst YW;have:=vZ (elem:=elem) (old:=[]) (hX:=[]) (sLen:=0) (hS.kill (i:=i')) .nil EV rfl vY (by simp) hlen Bi pH EW zm
             rw[aa.fQ] at this;exact this
          ·cases h
      ·cases h
    ·cases h
   ·cases h
  ·cases h
 ·cases h
variable {P:Program} {μ:Mu} {H H':aa} {w w1:World} {B:Nat}
theorem mr.ne {b:eM}{l:Loc}(h:mr μ w b l){k:Nat}{x:Obj}(hk:w.heap[k]? =some x)(hx:x.isCells=false):l.b≠k:=by
 rintro rfl;obtain⟨cs,ty,fz,h1,_⟩:=h.row;rw[h1] at hk;cases hk;cases hx
theorem cJ.jZ (h:cJ P μ H w B)(hw: ∀k,k<w.heap.size→w1.heap[k]? =w.heap[k]?)(hs:w.heap.size≤w1.heap.size){l:Nat}(hl:w.heap.size≤l){o:dA}(ho:mu P μ w1 o l):
  μ.le (μ.up H.length ⟨l,0,0,0⟩)∧cJ P (μ.up H.length ⟨l,0,0,0⟩) (H.jZ o) w1 B:=by
 have hle:=Mu.C6 (l:=⟨l,0,0,0⟩) (h.Bf H.length (Nat.le_refl _));have back: ∀{i:Nat} {m:Loc},i<H.length→(μ.up H.length ⟨l,0,0,0⟩) i=some m→μ i=some m:=by
  intro i m hi hm
  rwa [Mu.dL (by omega)] at hm
 refine⟨hle,Nat.le_trans h.base hs,?_,?_,?_,?_,?_,λk hk=>by obtain⟨h1,h2⟩:=aa.IM hk;rw[Mu.dL (by omega)];exact h.vN k h1⟩
 ·intro i b hb;have hb:=aa.qR hb;obtain⟨m,h1,h2⟩:=h.ok i b hb;exact⟨m,hle _ _ h1,(h2.mono hle).heap (hw _ h2.lt)⟩
 ·intro i hi;rw[aa.oo] at hi;rw[Mu.dL (by omega)];exact h.Bf i (by omega)
 ·intro i j b c m n hb hc hm hn LO iB;have hb:=aa.qR hb;have hc:=aa.qR hc;exact h.inj i j b c m n hb hc (back (aa.ar hb) hm) (back (aa.ar hc) hn) LO iB
 ·intro i b m hb iB hm;have hb:=aa.qR hb;exact h.own i b m hb iB (back (aa.ar hb) hm)
 ·refine⟨?_,?_⟩
  ·intro i p hp;rcases aa.vP hp with⟨rfl,rfl⟩|⟨hi,hp⟩
   ·exact⟨_,Mu.aP,Nat.le_trans h.base hl,ho.mono hle⟩
   ·obtain⟨m,h1,h2,h3⟩:=h.dT.ok i p hp;exact⟨m,hle _ _ h1,h2,(h3.mono hle).heap (hw _ h3.lt)⟩
  ·intro i j p q m n hp hq hm hn LO;rcases aa.vP hp with⟨rfl,rfl⟩|⟨hi,EY⟩<;>rcases aa.vP hq with⟨rfl,rfl⟩|⟨hj,qv⟩
   ·exact absurd rfl LO
   ·rw[Mu.aP] at hm;cases hm;obtain⟨n',e,_,k⟩:=h.dT.ok j q qv;have e2:=back hj hn;rw[e] at e2;cases e2;have:=k.lt;show l≠n.b;omega
   ·rw[Mu.aP] at hn;cases hn;obtain⟨m',e,_,k⟩:=h.dT.ok i p EY;have e2:=back hi hm;rw[e] at e2;cases e2;have:=k.lt;show m.b≠l;omega
   ·exact h.dT.inj i j p q m n EY qv (back hi hm) (back hj hn) LO
theorem cJ.jA (h:cJ P μ H w B){i:Nat}{o o':dA}{l:Loc}{x:Obj}(hi:H.dT i=some o)(hl:μ i=some l)(ho:mu P μ (w.putObj l.b x) o' l.b):cJ P μ (H.jA i o') (w.putObj l.b x) B:=by
 obtain⟨l',e,hB,eA⟩:=h.dT.ok i o hi;rw[hl] at e;cases e;obtain⟨y,hy,hyc⟩:=eA.at;have hw: ∀k,k≠l.b→(w.putObj l.b x).heap[k]? =w.heap[k]? :=λk hk=>World.putObj_heap_other hk
 refine⟨by simpa using h.base,?_,λk hk=>h.Bf k (by rw[aa.C8] at hk;exact hk),?_,?_,⟨?_,?_⟩,λk hk=>h.vN k (aa.IN hk).1⟩
 ·intro j b hb;rw[aa.vQ hi] at hb;obtain⟨m,h1,h2⟩:=h.ok j b hb;exact⟨m,h1,h2.heap (hw _ (h2.ne hy hyc))⟩
 ·intro j k b c m n hb hc;rw[aa.vQ hi] at hb hc;exact h.inj j k b c m n hb hc
 ·intro j b m hb;rw[aa.vQ hi] at hb;exact h.own j b m hb
 ·intro j p hp;by_cases e:j=i
  ·subst e;rw[aa.pV (aa.vO hi)] at hp;cases hp;exact⟨l,hl,hB,ho⟩
  ·rw[aa.tO e] at hp;obtain⟨m,h1,h2,h3⟩:=h.dT.ok j p hp;exact⟨m,h1,h2,h3.heap (hw _ (h.dT.inj j i p o m l hp hi h1 hl e))⟩
 ·intro j k p q m n hp hq hm hn z9;have old: ∀{j:Nat} {p:dA},(H.jA i o').dT j=some p→∃p',H.dT j=some p':=by
   intro j p hp;by_cases e:j=i
   ·subst e;exact⟨_,hi⟩
   ·rw[aa.tO e] at hp;exact⟨_,hp⟩
  obtain⟨p',hp⟩:=old hp;obtain⟨q',hq⟩:=old hq;exact h.dT.inj j k p' q' m n hp hq hm hn z9
theorem cJ.YX (h:cJ P μ H w B){i:Nat}{o:dA}{l:Loc}{x:Obj}(hi:H.dT i=some o)(hl:μ i=some l):cJ P μ (H.kill i) (w.putObj l.b x) B:=by
 obtain⟨l',e,hB,eA⟩:=h.dT.ok i o hi;rw[hl] at e;cases e;obtain⟨y,hy,hyc⟩:=eA.at;have hw: ∀k,k≠l.b→(w.putObj l.b x).heap[k]? =w.heap[k]? :=λk hk=>World.putObj_heap_other hk
 refine⟨by simpa using h.base,?_,λk hk=>h.Bf k (by rw[aa.fQ] at hk;exact hk),?_,?_,⟨?_,?_⟩,λk hk=>h.vN k (aa.sL hk).1⟩
 ·intro j b hb;obtain⟨m,h1,h2⟩:=h.ok j b (aa.qS hb);exact⟨m,h1,h2.heap (hw _ (h2.ne hy hyc))⟩
 ·intro j k b c m n hb hc;exact h.inj j k b c m n (aa.qS hb) (aa.qS hc)
 ·intro j b m hb;exact h.own j b m (aa.qS hb)
 ·intro j p hp;have e:j≠i:=by rintro rfl;rw[aa.pW] at hp;cases hp
  have hp:=aa.oq hp;obtain⟨m,h1,h2,h3⟩:=h.dT.ok j p hp;exact⟨m,h1,h2,h3.heap (hw _ (h.dT.inj j i p o m l hp hi h1 hl e))⟩
 ·intro j k p q m n hp hq;exact h.dT.inj j k p q m n (aa.oq hp) (aa.oq hq)
theorem cJ.P1 (h:cJ P μ H w B){D:Nat}{x y:Obj}(hD:w.heap[D]? =some y)(h1:y.isCells=false)(h2: ∀r,y≠ .loop r)(h3: ∀es c,y≠ .map es c):cJ P μ H (w.putObj D x) B:=by
 have hw: ∀k,k≠D→(w.putObj D x).heap[k]? =w.heap[k]? :=λk hk=>World.putObj_heap_other hk
 refine⟨by simpa using h.base,?_,h.Bf,h.inj,h.own,⟨?_,h.dT.inj⟩,h.vN⟩
 ·intro j b hb;obtain⟨m,h4,h5⟩:=h.ok j b hb;exact⟨m,h4,h5.heap (hw _ (h5.ne hD h1))⟩
 ·intro j p hp;obtain⟨m,h4,h5,h6⟩:=h.dT.ok j p hp;refine⟨m,h4,h5,h6.heap (hw _ ?_)⟩;rintro rfl;cases p with
  |loop L s=>obtain⟨r,N,g,_⟩:=h6;rw[hD] at g;cases g;exact h2 r rfl
  |EE k es=>obtain⟨ms,c,g,_⟩:=h6;rw[hD] at g;cases g;exact h3 _ _ rfl
theorem mN {D:Nat}{x y:Obj}(hD:w.heap[D]? =some y)(hB:B≤D):Below B w (w.putObj D x):=
 (Below.refl B w).grown (grownBy_putObj' w D x) (by have:=(Array.getElem?_eq_some_iff.1 hD).1;omega) (λk e=>by cases e;omega)
theorem eN.q9 {l:Nat}{r r':Loop}(hl:w.heap[l]? =some (.loop r))(hB:B≤l)(hd:r'.defers=r.defers):eN B w (w.putObj l (.loop r')):=by
 have gB:=(Array.getElem?_eq_some_iff.1 hl).1;refine⟨mN hl hB,?_,?_,by simp⟩
 ·intro b r0 hb;by_cases e:b=l
  ·subst e;rw[hl] at hb;cases hb;exact⟨r',World.putObj_heap_same gB,hd⟩
  ·exact⟨r0,by rw[World.putObj_heap_other e];exact hb,rfl⟩
 ·intro b hb;have e:b≠l:=by rintro rfl;rw[hl] at hb;cases hb
  rw[World.putObj_heap_other e];exact hb
theorem eN.Bm {l:Nat}{es es':Array MapEntry}{c c':Nat}(hl:w.heap[l]? =some (.map es c))(hB:B≤l):eN B w (w.putObj l (.map es' c')):=by
 refine⟨mN hl hB,?_,?_,by simp⟩
 ·intro b r0 hb;have e:b≠l:=by rintro rfl;rw[hl] at hb;cases hb
  exact⟨r0,by rw[World.putObj_heap_other e];exact hb,rfl⟩
 ·intro b hb;have e:b≠l:=by rintro rfl;rw[hl] at hb;cases hb
  rw[World.putObj_heap_other e];exact hb
theorem eN.Uk {w0:World}{D:Nat}{x:Obj}(h:eN B w0 w)(hl:w.heap[D]? =some (.deferred (some [])))(hB:B≤D)(hD:w0.heap.size≤D):eN B w0 (w.putObj D x):=by
 refine⟨h.below.trans (mN hl hB),?_,?_,by simpa using h.size⟩
 ·intro b r0 hb;have:=(Array.getElem?_eq_some_iff.1 hb).1
  rw[World.putObj_heap_other (by omega)];exact h.loops b r0 hb
 ·intro b hb;have:=(Array.getElem?_eq_some_iff.1 hb).1
  rw[World.putObj_heap_other (by omega)];exact h.YJ b hb
abbrev SW (D:Nat):Deferred:={target:=.collected D,args:=#[]}
def Marks (w w':World)(a a':Act):Prop:=
 ∃Ds:List Nat,a'.defers=Ds.map SW++a.defers∧Ds.Nodup∧∀D∈Ds,w.heap.size≤D∧w'.heap[D]? =some (.deferred (some []))
theorem Marks.of_eq {w w':World}{a a':Act}(h:a'.defers=a.defers):Marks w w' a a':=⟨[],by simpa using h,List.nodup_nil,λD hD=>by cases hD⟩
theorem Marks.trans {w w1 w':World}{a a1 a':Act}(h:Marks w w1 a a1)(hb:eN B w w1)(Mq:eN B w1 w')(k:Marks w1 w' a1 a'):Marks w w' a a':=by
 obtain⟨Ds,h1,h2,h3⟩:=h;obtain⟨Es,k1,k2,k3⟩:=k;refine⟨Es++Ds,by rw[k1,h1];simp,?_,?_⟩
 ·rw[List.nodup_append];refine⟨k2,h2,λx hx y hy e=>?_⟩
  subst e;have:=(k3 x hx).1
  have:=(Array.getElem?_eq_some_iff.1 (h3 x hy).2).1
  omega
 ·intro D hD;rcases List.mem_append.1 hD with hD|hD
  ·exact⟨Nat.le_trans hb.size (k3 D hD).1,(k3 D hD).2⟩
  ·exact⟨(h3 D hD).1,Mq.YJ D (h3 D hD).2⟩
theorem EZ {ro:Option Nat}(iB: ∀l₀,ro=some l₀→∃r,w.heap[l₀]? =some (.loop r))(h:cJ P μ H w B)(fn:FuncId)(a:Act)(ps:Array Tmp)(x y:Code):
  ∃(l:Nat) (mk:List Deferred) (w1:World) (r:Loop),(Instr.enterLoop fn a.tmps ps x y ro).run P w= .ok (l,mk) w1∧w1.heap[l]? =some (.loop r)∧r.params=ps∧r.assign=x∧r.body=y∧r.tmps=a.tmps∧r.state= .ready∧r.pending=none∧
   w.heap.size≤l∧eN B w w1∧(∀k,k<w.heap.size→w1.heap[k]? =w.heap[k]?)∧Marks w w1 a {a with defers:=mk++a.defers}:=by
 cases ro with
 |none=>
  refine⟨_,_,_,{state:=.ready,pending:=none,fn,tmps:=a.tmps,params:=ps,assign:=x,body:=y,defers:=w.heap.size},run_enterLoop_outer fn a.tmps ps x y,?_,rfl,rfl,rfl,rfl,rfl,rfl,by omega,?_,?_,?_⟩
  ·have:=World.alloc_heap_new (w.alloc (.deferred (some []))) (.loop {state:=.ready,pending:=none,fn,tmps:=a.tmps,params:=ps,assign:=x,body:=y,defers:=w.heap.size})
   rwa [World.size_alloc] at this
  ·exact((eN.refl B w).alloc h.base _).alloc (by have:=h.base;simp;omega) _
  ·intro k hk;rw[Below.heap_alloc _ _ _ (by simp;omega),Below.heap_alloc _ _ _ hk]
  ·refine⟨[w.heap.size],rfl,by simp,λD hD=>?_⟩
   simp only[List.mem_singleton] at hD;subst hD;refine⟨Nat.le_refl _,?_⟩;rw[Below.heap_alloc _ _ _ (by simp)];exact World.alloc_heap_new w _
 |some l₀=>
  obtain⟨r₀,hr⟩:=iB l₀ rfl;refine⟨_,_,_,{state:=.ready,pending:=none,fn,tmps:=a.tmps,params:=ps,assign:=x,body:=y,defers:=r₀.defers},run_enterLoop_inner hr fn a.tmps ps x y,?_,rfl,rfl,rfl,rfl,rfl,rfl,Nat.le_refl _,(eN.refl B w).alloc h.base _,λk hk=>Below.heap_alloc _ _ _ hk,Marks.of_eq (by simp)⟩
  exact World.alloc_heap_new w _
end Go.Proofs.YtgfgglponbmgmaaGreatA.Am
end
