/- Laws. -/
import Derived.Test.YtmiaanioldpfgaaGreatDoorX23
set_option linter.all false
set_option maxHeartbeats 8000000
set_option maxRecDepth 99999
namespace Go.Proofs.YtmiaanioldpfgaaGreatDoor
open Go.RowKit Sos Tryz
variable{R W w w':World}{B b c g i k m n vars:Nat}{o o':Obj}{cs r vs xs:List Value}{q:Rat}{v z:Value}{ks l:List Nat}{dT sT t:TypeId}
def gxB{e:Nat}{es:Array MapEntry}(f:w.heap[b]? =some (.map es e))(o:Obj):Keep w { w with heap:=w.heap.setIfInBounds b o }:=fun u n h=>by
 obtain⟨A,c',hv,j,d,p⟩:=h;refine⟨A,c',hv,j,?_,p.mono (by simp)⟩;rcases d with d|⟨g,off,rfl,l,k⟩
 ·exact .inl d
 ·refine .inr ⟨g,off,rfl,by simpa using l,fun i hi=> ?_⟩;have c:=k i hi;refine(World.cell?_of_block (a:=⟨g,_,none⟩) ?_).trans c;have m:g≠b:=by
   rintro rfl;rw[World.cell?,f] at c;simp at c
  show(w.heap.setIfInBounds b o)[g]? =w.heap[g]?
  simp[Ne.symm m]
def gxC(h:Below B w W)(c:B<=b)(o:Obj):Below B w { W with heap:=W.heap.setIfInBounds b o }:=
 ⟨h.os,h.tape,h.output,by show w.1.size<=(W.heap.setIfInBounds b o).size;rw[Array.size_setIfInBounds];exact h.size,fun k a=>by
  show(W.heap.setIfInBounds b o)[k]? =_
  rw[Array.getElem?_setIfInBounds_ne (by omega)];exact h.block k a⟩
def map_set(h:W.heap[b]? =some o):({ W with heap:=W.heap.setIfInBounds b o' }:World).heap[b]? =some o':=by
 show(W.heap.setIfInBounds b o')[b]? =_
 rw[Array.getElem?_setIfInBounds_self_of_lt (Array.getElem?_eq_some_iff.1 h).1]
def gxD(hi:i<6)(c:W.heap[b]? =some (.map (lA i vs) vs.length))(e:Below w.1.size w W)(d:w.1.size<=b)(v:Value):
  ∃a,(Instr.mapUpdate 157 (.map (some b)) (B4 i vs.length) v).run prog W= .ok () a∧a.heap[b]? =some (.map (lA i (vs++[v])) (vs++[v]).length)∧Below w.1.size w a∧Keep W a∧∀g,g≠b->a.heap[g]? =W.heap[g]? :=
 ⟨_,gxZ hi c v,map_set c,gxC e d _,gxB c _,fun g f=>Array.getElem?_setIfInBounds_ne (Ne.symm f)⟩
def gxE(h:RatAt w v q)(k:RL 1 q):Calls prog 101 #[.agg #[.bool false,.slice none 0 0,.bool false,.slice none 0 0],v] w (iF w q):=by
 have a:RL 1 0:=⟨cJ (by decide),cJ (by decide)⟩;by_cases b:q.den=1
 ·have:=J7 0 q _ v w (RatAt.zero w) h rfl b 1 a k (by decide);rwa [bxT] at this
 ·have:=UZ 0 q _ v w (RatAt.zero w) h rfl b 1 a k (by decide);rwa [bxT] at this
def gxF(w:World):(Instr.makeMap 157 none).run prog w= .ok (.map (some w.1.size)) (w.alloc (.map #[] 0)):=by
 simp[Instr.makeMap,run_underlying underlying157,go_sem]
def gxG{a:Nat}{es:Array MapEntry}(c:w.heap[b]? =some (.map es a))(d:es.size=m)(e:TypeId):(Builtin.len_ #[157] e #[.map (some b)]).run prog w= .ok (.int .i64 m) w:=by
 simp[Builtin.len_,run_underlying underlying157,MapKept.run_getObj_map c,goInt,d]
def lQ(i:Nat)(a:Nat->List Value)(k:Nat):List Value:=(bG 6 i k).map (Value.int .i64)++a k
structure EntsAt(w:World)(i g o m:Nat)(rc:Nat->List Value)(p:Nat->Rat):Prop where
 lt:g<w.1.size
 cells:∀k<m,∀j u,(lQ i rc k)[j]? =some u->w.cell? ⟨g,o+k*10+j,none⟩=some u
 rat:∀k<m,(rc k).length=4∧RatAt w (.agg (rc k).toArray) (p k)
def EntsAt.be{o:Nat}{c:Nat->List Value}{p:Nat->Rat}(h:EntsAt w i g o m c p)(b:Below w.1.size w w'):EntsAt w' i g o m c p:=
 ⟨aZ h.lt b.size,fun k a j u d=>(b.cell (p:=⟨g,_,none⟩) h.lt).trans (h.cells k a j u d),fun k a=>⟨(h.rat k a).1,(h.rat k a).2.be b⟩⟩
def W9(vs:List Value)(k:Nat):List Value:=match vs.getD k (.bool false) with| .agg a=>a.toList|_=>[]
def fyG(h:RatAt w (vs.getD k (.bool false)) q):∃s A n c d a b c',vs.getD k (.bool false)= .agg #[.bool s,.slice A n c,.bool d,.slice a b c']∧W9 vs k=[.bool s,.slice A n c,.bool d,.slice a b c']:=by
 obtain⟨s,A,n,c,d,a,b,c',e⟩:=h.form;exact⟨s,A,n,c,d,a,b,c',e,by unfold W9;rw[e]⟩
def SeenOk(p:Nat->Rat)(m:Nat)(seen:Array Nat)(ks:List Nat):Prop:=ks=seen.toList.filter (fun k=>decide (p k≠0))∧seen.toList.Nodup∧∀x∈seen.toList,x<m
def SeenOk.push{p:Nat->Rat}{seen:Array Nat}(h:SeenOk p m seen ks)(l:k<m)(hn:k ∉ seen.toList):SeenOk p m (seen.push k) (ks++if p k=0 then [] else [k]):=by
 obtain⟨e,f,g⟩:=h;unfold SeenOk;rw[Array.toList_push];refine⟨?_,?_,fun x c=> ?_⟩
 ·rw[e,List.filter_append];congr 1;by_cases j:p k=0<;>simp[j]
 ·rw[List.nodup_append];refine⟨f,by simp,fun a i b d=> ?_⟩;rw[by4] at d;rintro rfl;exact hn (d ▸ i)
 ·rcases List.mem_append.1 c with c|c
  ·exact g x c
  ·rw[by4] at c;omega
def SeenOk.perm{p:Nat->Rat}{seen:Array Nat}(h:SeenOk p m seen ks)(d:∀k<m,k∈seen.toList):ks.Perm ((List.range m).filter fun k=>decide (p k≠0)):=by
 obtain⟨rfl,b,c⟩:=h;refine List.Perm.filter _ ?_;rw[List.perm_ext_iff_of_nodup b List.nodup_range];exact fun x=>⟨fun a=>List.mem_range.2 (c x a),fun a=>d x (List.mem_range.1 a)⟩
def gxH{es:Array MapEntry}(h:es.size=m):(leftOf es #[]).size=m:=by
 rw[<-h];unfold leftOf;simp
def gxI{es:Array MapEntry}{seen:Array Nat}(h:(leftOf es seen).size=0){e:MapEntry}(b:e∈es.toList):e.born∈seen.toList:=by
 have a:=Array.eq_empty_of_size_eq_zero h;unfold leftOf at a;rw[Array.filter_eq_empty_iff] at a;have:=a e (Array.mem_toList_iff.1 b);simpa using this
def gxJ{a:Nat}(h:w.heap[a]? =some o):w.grownBy { w.drewN n with heap:=w.heap.setIfInBounds a o' } (some a)∧({ w.drewN n with heap:=w.heap.setIfInBounds a o' }:World).heap[a]? =some o':=
 ⟨⟨rfl,rfl,rfl,by show w.1.size<=(w.heap.setIfInBounds a o').size;simp,fun g c b=>Array.getElem?_setIfInBounds_ne (fun e=>b (by rw[e]))⟩,by
  show(w.heap.setIfInBounds a o')[a]? =_
  rw[Array.getElem?_setIfInBounds_self_of_lt (Array.getElem?_eq_some_iff.1 h).1]⟩
def fyH{a:Option Nat}{d:Array Nat}(h:w.ownsRow B t k v n xs)(hi:w.heap[i]? =some (.mapIter a b d c)):v.ownBlock=none∨v.ownBlock≠some i:=by
 rcases h.2 with ⟨rfl,_⟩|⟨g,j,l,rfl,_,f,_⟩
 ·exact .inl rfl
 ·right;intro e;simp[Value.ownBlock] at e;subst e;rw[hi] at f;cases f
def eqH(h:w.ownsRow B t k v n xs)(f:Below w.1.size w w'):w'.ownsRow B t k v n xs:=by
 have i:=h.lt;refine⟨h.1,?_⟩;rcases h.2 with h|⟨g,a,b,rfl,c,d,e⟩
 ·exact .inl h
 ·exact .inr ⟨g,a,b,rfl,c,(f.block g (i g (by simp[Value.ownBlock])).2).trans d,e⟩
def gxK(h:l.Nodup)(b:∀x∈l,x<m):l.length<=m:=by
 induction m generalizing l with
 |zero=>
  cases l with
  |nil=>exact aE
  |cons x r=>exact absurd (b x (by simp)) (by omega)
 |succ m f=>
  by_cases d:m∈l
  ·have g:=List.length_erase_of_mem d;have i:=f (h.erase m) fun x a=>by
    have c:=(h.mem_erase_iff).1 a;have:=b x c.2;have:=c.1;omega
   omega
  ·exact Nat.le_succ_of_le (f h fun x a=>by
    have:=b x a;have:x≠m:=fun e=>d (e ▸ a);omega)
def SeenOk.len{p:Nat->Rat}{seen:Array Nat}(h:SeenOk p m seen ks):ks.length<=m:=by
 obtain⟨rfl,a,b⟩:=h;refine aH (List.length_filter_le _ _) ?_;exact gxK a b
def gxL(w:World)(i m:Nat)(p:Nat->Rat)(e:Ending)(w':World):Prop:=
 ∃(v:Value) (b:List Nat) (c:Nat->List Value) (a:World),e= .returned v∧b.Perm ((List.range m).filter fun k=>decide (p k≠0))∧w'.ownsRow a.1.size 109 10 v b.length (b.flatMap (lQ i c))∧v.ownBlock≠none∧(∀k<m,(c k).length=4∧RatAt a (.agg (c k).toArray) (p k))∧Below a.1.size a w'∧Below w.1.size w a
def gxM(i m mc:Nat)(hi:i<6)(hm:m<=64)(dc:m<=mc)(rc:Nat->List Value)(p:Nat->Rat)(gb go ob:Nat)(w:World)(tt:TypeId)(hO:Bx w ob [.slice (some ⟨gb,go,none⟩) m mc] tt)(hE:EntsAt w i gb go m rc p)(hp:∀k<m,RL 1 (p k)):
  Calls prog 49 #[.slice (some ⟨ob,0,none⟩) 1 1] w (gxL w i m p):=by
 obtain⟨W,eW⟩:∃W,w.alloc (.map #[] 0)=W:=⟨_,rfl⟩;have hW:W.heap[w.1.size]? =some (.map (lA i []) 0):=by rw[<-eW];exact heap_alloc_new w _
 have bb:Below w.1.size w W:=by rw[<-eW];exact(aG _ _).alloc aE _
 have cO:=(hO.be bb).cell 0 rfl;have HE:=aB hE;have HP:=aB hp;have cc:=aB hO;clear hE hp hO;go_enter func49,ntmps49;have bz:=gxF w;rw[eW] at bz;go_upto_region 3 with fail;clear bz eW;go_loopg [14] 1 (fun k vi wr=>∃vs:List Value,Hid ((k=1∧vi= .int .i64 0∧vs=[])∨(k=0∧vi= .int .i64 1∧vs.length=m))∧wr.heap[w.1.size]? =some (.map (lA i vs) vs.length)∧Hid (∀t<vs.length,RatAt wr (vs.getD t (.bool false)) (p t))∧Below w.1.size w wr)
 case atStart=>exact⟨[],.inl ⟨rfl,rfl,rfl⟩,hW,fun t ht=>absurd ht (by simp),bb⟩
 case round=>
  clear hW bb cO;obtain⟨vs,HC,z,HR,f⟩:=hrel;generalize wr=wy at *;rcases HC.out with ⟨rfl,rfl,rfl⟩|⟨rfl,rfl,ar⟩
  ·have cO:=(cc.out.be f).cell 0 rfl;clear HC HR;go_upto_region 6 with fail;clear cO;go_loopg [20] m (fun k vi wr=>∃vs:List Value,Hid (vs.length+k=m)∧vi= .int .i64 vs.length∧wr.heap[w.1.size]? =some (.map (lA i vs) vs.length)∧Hid (∀t<vs.length,RatAt wr (vs.getD t (.bool false)) (p t))∧Below w.1.size w wr)
   case atStart=>exact⟨[],by unfold Hid;simp,rfl,z,fun t ht=>absurd ht (by simp),f⟩
   case round=>
    clear z f;obtain⟨vs,HJ,rfl,z,HR,f⟩:=hrel;generalize wr=wz at *;cases gk with
    |zero=>
     have ar:vs.length=m:=HJ.out;have a2:=aB ar;have q1:(vs.length:Int)=(m:Int):=by omega
     clear ar;go_wp2;go_roundg 0
     case rel=>exact⟨vs,.inr ⟨rfl,by go_num,a2.out⟩,z,HR,f⟩
     case measure=>omega
    |succ k=>
     have bf:vs.length<m:=by have:=HJ.out;omega
     have c9:(0:Int)<=(vs.length:Int):=by omega
     have q1:(vs.length:Int)<(m:Int):=by omega
     have hE:=HE.out.be f;obtain⟨L,M,N,O,Q,R,ex⟩:=X8 i vs.length;obtain⟨cr,C⟩:=hE.rat _ bf;obtain⟨G,l,D,u,H,r,E,y,er⟩:=C.form;have a9:rc vs.length=[.bool G,.slice l D u,.bool H,.slice r E y]:=by
      have:=congrArg (fun v=>match v with| .agg a=>a.toList|_=>[]) er;simpa using this
     have a3:lQ i rc vs.length=[.int .i64 L,.int .i64 M,.int .i64 N,.int .i64 O,.int .i64 Q,.int .i64 R,.bool G,.slice l D u,.bool H,.slice r E y]:=by unfold lQ;rw[ex,a9];rfl
     have B:=hE.cells _ bf;rw[a3] at B;have d0:=B 0 _ rfl;have d1:=B 1 _ rfl;have d2:=B 2 _ rfl;have d3:=B 3 _ rfl;have d4:=B 4 _ rfl;have d5:=B 5 _ rfl;have d6:=B 6 _ rfl;have d7:=B 7 _ rfl;have d8:=B 8 _ rfl;have d9:=B 9 _ rfl;simp only[gQ] at d0;rw[a9] at C;have bx:∀W:World,W.heap[w.1.size]? =some (.map (lA i vs) vs.length)->(Instr.lookup 157 (.map (some w.1.size)) (.agg #[.int .i64 L,.int .i64 M,.int .i64 N,.int .i64 O,.int .i64 Q,.int .i64 R]) false).run prog W= .ok (.agg #[.bool false,.slice none 0 0,.bool false,.slice none 0 0]) W:=fun W h=>by
      have:=gxY hi h;unfold B4 at this;rw[ex] at this;exact this
     have a8:=fun W (v:Value) h h'=>gxD (vs:=vs) hi (w:=w) (W:=W) (b:=w.1.size) h h' aE v;unfold B4 at a8;rw[ex] at a8;have bq:=fun W h=>gxE (q:=p vs.length) (v:= .agg #[.bool G,.slice l D u,.bool H,.slice r E y]) (w:=W) h (HP.out _ bf);clear ex hE cr er a9 a3 B;generalize lA i vs=U at *;obtain⟨V,e2,ad,T⟩:=bI wz [.int .i64 L,.int .i64 M,.int .i64 N,.int .i64 O,.int .i64 Q,.int .i64 R,.bool G,.slice l D u,.bool H,.slice r E y] 109;go_upto_region 8 with fail;(try rw[e2]);clear e2;clear d0 d1 d2 d3 d4 d5 d6 d7 d8 d9;have ai:V.heap[w.1.size]? =some (.map U vs.length):=by rw[ad.block _ (Array.getElem?_eq_some_iff.1 z).1];exact z
     replace f:=aC f ad;refine wp_region_noPanic ?_;refine wp_region_held_drew (S:=(fun w'=>eq0 w' wz.1.size (.int .i64 L) (.int .i64 M) (.int .i64 N) (.int .i64 O) (.int .i64 Q) (.int .i64 R) (.bool G) (.slice l D u) (.bool H) (.slice r E y))) (by kernel_rfl) (by(try dsimp only);(exact T.k10)) (fun I=> ?_);refine b6 (v:= ?_) 0 24 rfl rfl (by kernel_rfl) (fun _ _ _ h=>h) (by rfl) I ?_ ?_;rotate_left;focus (intro w d;(try dsimp only at d);go_simp;(try with_reducible rfl);done)
     (try simp only[Act.put,List.setIfInBounds_toArray,bzS,List.set_cons_succ]);refine b6 (v:= ?_) 1 25 rfl rfl (by kernel_rfl) (fun _ _ _ h=>h) (by rfl) I ?_ ?_;rotate_left;focus (intro w d;(try dsimp only at d);go_simp;(try with_reducible rfl);done)
     (try simp only[Act.put,List.setIfInBounds_toArray,bzS,List.set_cons_succ]);refine b6 (v:= ?_) 2 26 rfl rfl (by kernel_rfl) (fun _ _ _ h=>h) (by rfl) I ?_ ?_;rotate_left;focus (intro w d;(try dsimp only at d);go_simp;(try with_reducible rfl);done)
     (try simp only[Act.put,List.setIfInBounds_toArray,bzS,List.set_cons_succ]);refine b6 (v:= ?_) 3 27 rfl rfl (by kernel_rfl) (fun _ _ _ h=>h) (by rfl) I ?_ ?_;rotate_left;focus (intro w d;(try dsimp only at d);go_simp;(try with_reducible rfl);done)
     (try simp only[Act.put,List.setIfInBounds_toArray,bzS,List.set_cons_succ]);refine b6 (v:= ?_) 4 28 rfl rfl (by kernel_rfl) (fun _ _ _ h=>h) (by rfl) I ?_ ?_;rotate_left;focus (intro w d;(try dsimp only at d);go_simp;(try with_reducible rfl);done)
     (try simp only[Act.put,List.setIfInBounds_toArray,bzS,List.set_cons_succ]);refine b6 (v:= ?_) 5 29 rfl rfl (by kernel_rfl) (fun _ _ _ h=>h) (by rfl) I ?_ ?_;rotate_left;focus (intro w d;(try dsimp only at d);go_simp;(try with_reducible rfl);done)
     (try simp only[Act.put,List.setIfInBounds_toArray,bzS,List.set_cons_succ]);refine b6 (v:= ?_) 7 31 rfl rfl (by kernel_rfl) (fun _ _ _ h=>h) (by rfl) I ?_ ?_;rotate_left;focus (intro w d;(try dsimp only at d);go_simp;(try with_reducible rfl);done)
     (try simp only[Act.put,List.setIfInBounds_toArray,bzS,List.set_cons_succ]);refine b6 (v:= ?_) 8 32 rfl rfl (by kernel_rfl) (fun _ _ _ h=>h) (by rfl) I ?_ ?_;rotate_left;focus (intro w d;(try dsimp only at d);go_simp;(try with_reducible rfl);done)
     (try simp only[Act.put,List.setIfInBounds_toArray,bzS,List.set_cons_succ]);have cq:=bx V.drew ai;refine wpAnyH_ready (rs:=[6]) (by kernel_rfl) (by simp) (AllReadyH.cons (o:=_) rfl (fun K hK=> ?_) AllReadyH.nil);go_simp;go_wp2_with fail;refine hK.out _ _ (by(try dsimp only);(exact T.k10)) (fun I=> ?_);clear hK K;(try simp only[Act.put,List.setIfInBounds_toArray,bzS,List.set_cons_succ]);refine wpAnyH_ready (rs:=[9]) (by kernel_rfl) (by simp) (AllReadyH.cons (o:=_) rfl (fun K hK=> ?_) AllReadyH.nil);go_simp;(go_at_call 101;refine(bq _ ((C.be ad).be (aG V.1.size V).drew)).mono ?_;rintro e3 w3 ⟨v3,rfl,bj,ae⟩);have ao:Below V.1.size V w3:=(aG V.1.size V).drew.trans (ae.mono aE);have bp:w3.heap[w.1.size]? =some (.map U vs.length):=by rw[ao.block _ (Array.getElem?_eq_some_iff.1 ai).1];exact ai
     obtain⟨aw,ak,au,am,ax,al,av,an,rfl⟩:=bj.form;go_wp2_with fail;refine hK.out _ _ (by(try dsimp only);(exact(T.be ao).k10)) (fun I=> ?_);clear hK K;(try simp only[Act.put,List.setIfInBounds_toArray,bzS,List.set_cons_succ]);clear bx cq bq;obtain⟨w4,b2,cg,ch,bg,bu⟩:=a8 w3 (.agg #[.bool aw,.slice ak au am,.bool ax,.slice al av an]) bp (aC f ao);have ct:wz.1.size≠w.1.size:=by have:=(Array.getElem?_eq_some_iff.1 z).1;omega
     have T4:Bx w4 wz.1.size _ _:=(bu _ ct).trans (T.be ao);clear a8;have cz:(Instr.mapUpdate 157 (.map (some w.1.size)) (.agg #[.int .i64 L,.int .i64 M,.int .i64 N,.int .i64 O,.int .i64 Q,.int .i64 R]) (.agg #[.bool aw,.slice ak au am,.bool ax,.slice al av an])).run prog w3= .ok () w4:=b2;clear b2;refine wpAnyH_ready (rs:=[10]) (by kernel_rfl) (by simp) (AllReadyH.cons (o:=_) rfl (fun K hK=> ?_) AllReadyH.nil);go_simp;refine hK.out _ _ (by(try dsimp only);(exact T4.k10)) (fun I=> ?_);clear hK K;(try simp only[Act.put,List.setIfInBounds_toArray,bzS,List.set_cons_succ]);refine wpAnyH_done (by kernel_rfl) ?_ _;refine NoPanic.normal ?_;have ce:Hid (∀t<(vs++[Value.agg #[.bool aw,.slice ak au am,.bool ax,.slice al av an]]).length,RatAt w4 ((vs++[Value.agg #[.bool aw,.slice ak au am,.bool ax,.slice al av an]]).getD t (.bool false)) (p t)):=fun t ht=>by
      rw[bN,iJ] at ht;rcases dE t vs.length with h|h
      ·rw[eF,gA h,<-eF];exact(((HR.out t h).be ad).be ao).ke bg
      ·obtain rfl:t=vs.length:=by omega
       rw[eF,fK aE,azV];exact bj.ke bg
     have bm:Hid ((vs++[Value.agg #[.bool aw,.slice ak au am,.bool ax,.slice al av an]]).length=vs.length+1):=by unfold Hid;rw[bN,iJ]
     clear cz bu bg bj T4 T ad ae ao ai bp C;generalize vs++[Value.agg #[.bool aw,.slice ak au am,.bool ax,.slice al av an]]=c8 at *;go_wp2;go_roundg k
     case rel=>exact⟨c8,by have:=HJ.out;have:=bm.out;unfold Hid;omega,by rw[bm.out];go_num,cg,ce,ch⟩
     case measure=>omega
  ·have a2:=aB ar;have c7:(vs.length:Int)=(m:Int):=by omega
   have bk:=ar;clear ar HC;obtain⟨ie,cm,ck,cl,bs⟩:=info_parts ezC;have br:ie.bytes*m<=281474976710656:=by rw[bs];omega
   have b0:m<=maxLen:=by unfold maxLen;omega
   have HB:=aB (And.intro br b0);clear br b0 bs;have bt:(lA i vs).size=m:=by rw[gy9];exact bk
   have cx:∀x∈(lA i vs).toList,x.born<m:=bk ▸ gy5 i vs;have b9:=aB (gy6 i vs);have b8:=aB (gy8 i vs);have cb:=aB (fun e=>gy7 (i:=i) (vs:=vs) (e:=e));rw[bk] at z;have bh:=(Array.getElem?_eq_some_iff.1 z).1;clear c7;generalize lA i vs=U at *;have cs:=gxG z bt;go_upto_region 11 with fail;go_wp2_with (at_make;refine wpList_make_own _ rfl _ _ 92 rfl wy.1.size 109 ie _ 10 underlying92 cm ck cl .i64 .i64 _ m rfl rfl rfl HB.out.1 HB.out.2 aE ?_;intro w1 b3 bv;have az:=pT bv (mC wy.1.size) (fun _ h=>by cases h);have bo:w1.heap[w.1.size]? =some (.map U m):=(az.block _ bh).trans z;have c4:=run_range_map w1 157 _ _ w.1.size U m underlying157 bo);have aj:=heap_alloc_new w1 (.mapIter (some w.1.size) m #[] m);have ag:=b3.alloc (.mapIter (some w.1.size) m #[] m);have ac:=az.alloc az.size (.mapIter (some w.1.size) m #[] m);have db:wy.1.size<=w1.1.size:=az.size;have ca:=aB f;clear c4 bo b3 bv az cs f;generalize w1.alloc (.mapIter (some w.1.size) m #[] m)=W0 at *;generalize w1.1.size=it at *;go_loopg [8] m (fun k v8 wr=>∃(j:Array Nat) (F:List Nat),Hid ((leftOf U j).size=k)∧Hid (SeenOk p m j F)∧wr.heap[it]? =some (.mapIter (some w.1.size) m j m)∧wr.ownsRow wy.1.size 109 10 v8 F.length (F.flatMap (lQ i (W9 vs)))∧v8.ownBlock≠none∧Below wy.1.size wy wr)
   case atStart=>exact⟨#[],[],gxH bt,⟨rfl,List.nodup_nil,fun x h=>by cases h⟩,aj,ag,by simp[Value.ownBlock],ac⟩
   case round=>
    clear aj ag ac;obtain⟨j,F,HK,HS,aj,ag,bi,ac⟩:=hrel;generalize wr=wz at *;have ba:wz.heap[w.1.size]? =some (.map U m):=(ac.block _ bh).trans z;rcases gy3 (P:=prog) 0 aj ba cx aE with ⟨h0,a0⟩|⟨e,he,n,a0⟩
    ·have H0:=aB h0;have cd:=aB ag;clear h0 ag;go_wp2;go_ret;have f:=ca.out;refine⟨_,F,W9 vs,wy,rfl,HS.out.perm fun k hk=> ?_,cd.out,bi,fun k hk=> ?_,ac,f⟩
     ·obtain⟨e,he,rfl⟩:=b8.out k (by rw[a2.out];exact hk);exact gxI H0.out he
     ·have hr:=HR.out k (by rw[a2.out];exact hk);obtain⟨s,A,n,c,s',A',n',c',e1,e2⟩:=fyG hr;rw[e2];exact⟨rfl,by rw[e1] at hr;exact hr⟩
    ·obtain⟨bc,b4⟩:=mem_left he;have b5:=left_shrinks U j e he;obtain⟨k,cp,rfl⟩:=cb.out e bc;have bw:k<m:=by omega
     have b1:k ∉ j.toList:=fun h=>by
      have h1:j.contains k=false:=b4;have h2:j.contains k=true:=by simpa using h
      rw[h1] at h2;cases h2
     have bn:=aB b5;have ay:=aB (HS.out.push bw b1);obtain⟨a6,a7⟩:=gxJ (n:=n) (o':= .mapIter (some w.1.size) m (j.push k) m) aj;have ah:=ag.kept a6 (fyH ag aj);have ad:=pT a6 ac.size (fun g e=>by injection e with e;omega);have J:=ac.trans ad;have ai:=(a6.block _ (aZ bh ac.size) (fun e=>by injection e with e;omega)).trans ba;dsimp only at a0;clear b5 b4 he a6 ad ag ac b1 HS;generalize ({ wz.drewN n with heap:=wz.heap.setIfInBounds it (.mapIter (some w.1.size) m (j.push k) m) }:World)=V at *;have a4:=gy4 (P:=prog) a7 ai bc b9.out rfl;dsimp only at a4;have C:=(HR.out k cp).be J;obtain⟨G,l,D,u,H,r,E,y,e1,e2⟩:=fyG C;obtain⟨L,M,N,O,Q,R,ex⟩:=X8 i k;have a3:Hid (lQ i (W9 vs) k=[.int .i64 L,.int .i64 M,.int .i64 N,.int .i64 O,.int .i64 Q,.int .i64 R,.bool G,.slice l D u,.bool H,.slice r E y]):=by unfold Hid lQ;rw[ex,e2];rfl
     unfold B4 at a4 a0;rw[e1,ex] at a4 a0;rw[e1] at C;clear e1 e2 ex bc ai;obtain⟨w3,e3,ae,X,Y⟩:=DA V [.int .i64 L,.int .i64 M,.int .i64 N,.int .i64 O,.int .i64 Q,.int .i64 R] 107 [.bool G,.slice l D u,.bool H,.slice r E y] 86;go_upto_region 15 with fail;(try rw[e3]);clear e3 a4 a0 ba;replace ah:=eqH ah ae;replace C:=C.be ae;have af:=(ae.block _ (Array.getElem?_eq_some_iff.1 a7).1).trans a7;replace J:=aC J ae;clear ae a7 aj;have cY:=Y.g4;have hz:=fun W h=>SV (p k) (.agg #[.bool G,.slice l D u,.bool H,.slice r E y]) W h (aH (HP.out k bw).1 (by decide));by_cases aq:p k=0
     ·have a1:decide (p k=0)=true:=decide_eq_true aq;rw[a1] at hz;rw[if_pos aq,fH] at ay;clear aq a1;go_wp2_with (go_at_call 58;refine(hz _ C).mono ?_;rintro e5 w5 ⟨rfl,ab⟩);have c5:=eqH ah ab;have cn:=(ab.block _ (Array.getElem?_eq_some_iff.1 af).1).trans af;have ci:=aC J ab;go_roundg (leftOf U (j.push k)).size
      case rel=>exact⟨j.push k,F,rfl,ay,cn,c5,bi,ci⟩
      case measure=>have:=bn.out;have:=HK.out;omega
     ·have a1:decide (p k=0)=false:=decide_eq_false aq;rw[a1] at hz;rw[if_neg aq] at ay;clear aq a1;go_wp2_with fail;((with_reducible refine(hz _ C).mono ?_);rintro e5 w5 ⟨rfl,ab⟩);obtain⟨w6,e6,ap,Z⟩:=bI w5 [.int .i64 L,.int .i64 M,.int .i64 N,.int .i64 O,.int .i64 Q,.int .i64 R,.bool G,.slice l D u,.bool H,.slice r E y] 109;replace ap:=aC ab ap;replace X:=X.be ab;replace Y:=Y.be ab;replace ah:=eqH ah ap;replace af:=(ap.block _ (Array.getElem?_eq_some_iff.1 af).1).trans af;replace J:=aC J ap;clear ab ap C hz cY;have cY:=Y.g4;have de:=X.cell 0 rfl;have df:=X.cell 1 rfl;have dh:=X.cell 2 rfl;have di:=X.cell 3 rfl;have dj:=X.cell 4 rfl;have dk:=X.cell 5 rfl;have da:F.length<=64:=by
       have h1:=ay.out.len;rw[bN] at h1;omega
      have c6:Src w6 (some ⟨w5.1.size,0,none⟩) [.int .i64 L,.int .i64 M,.int .i64 N,.int .i64 O,.int .i64 Q,.int .i64 R,.bool G,.slice l D u,.bool H,.slice r E y]:= .inr ⟨_,0,rfl,fun i hi hv=>by rw[bA];exact Z.cell i hv⟩;have cu:=fyH ah af;have cy:=ah.lt;have b7:=J.size;go_wp2_with (at_builtin;(try rw[e6]);refine gM rfl rfl 109 _ 10 112 underlying92 ezC rfl (by decide) wy.1.size _ F.length (F.flatMap (lQ i (W9 vs))) rfl ah [.int .i64 L,.int .i64 M,.int .i64 N,.int .i64 O,.int .i64 Q,.int .i64 R,.bool G,.slice l D u,.bool H,.slice r E y] rfl rfl c6 (fxM _ _ _ _ _ _ _ _ _ _ _ _ _ _) (by omega) (by omega) b7 ?_;intro v7 w7 c0 a5 cv);have cw:v7.ownBlock≠none:=by
       rcases cv with h|h
       ·intro h';rw[h'] at h;exact bi h.symm
       ·intro h';rw[h'] at h;cases h
      replace a5:w6.grownBy w7 u8.ownBlock:=a5
      have co:=(a5.block _ (Array.getElem?_eq_some_iff.1 af).1 (fun e=>by
       rcases cu with h|h
       ·rw[h] at e;cases e
       ·exact h e.symm)).trans af
      have cj:=J.trans (pT a5 b7 (fun g e=>(cy g e).1));have c3:w7.ownsRow wy.1.size 109 10 v7 (F++[k]).length ((F++[k]).flatMap (lQ i (W9 vs))):=by
       rw[bN,iJ,List.flatMap_append,List.flatMap_singleton,a3.out];exact c0
      go_roundg (leftOf U (j.push k)).size
      case rel=>exact⟨j.push k,F++[k],rfl,ay,co,c3,cw,cj⟩
      case measure=>have:=bn.out;have:=HK.out;omega
def gyA(vars:Int)(ts:List Te)(v:Value)(w:World)(H:Glob w)(hv:TesAt w v ts)(q:PolyOk vars ts):
  Calls prog 39 #[.agg #[.int .i64 vars,v]] w (ezY w (tN vars ts)):=by
 obtain⟨A,c,rfl,S⟩:=hv.form;have C:=q;have y:=aB C;have g:=fun W h hv I=>fzR vars ts (.slice A ts.length c) W h hv y.out I;have T:=q.len;clear q C;obtain⟨e,n⟩:∃e,decide (ts.length<=4096)=e:=⟨_,rfl⟩;obtain⟨j,l⟩:∃j,(decide (0<=vars∧vars<=6)&&I5 vars ts)=j:=⟨_,rfl⟩;obtain⟨d,m⟩:∃d,ezF ts=d:=⟨_,rfl⟩;have D:tN vars ts=(e&&(j&&d)):=by rw[<-n,<-l,<-m,Bool.and_assoc];rfl
 rw[D];rw[l] at g;have x:=aB n;have O:=aB l;have s:=aB m;clear D n l m;obtain⟨W,k,a,X⟩:=bI w [.int .i64 vars,.slice A ts.length c] 24;have G:=X.g2;unfold ezY at g;by_cases R:4096<ts.length
 ·have f:decide (ts.length<=4096)=false:=decide_eq_false (by omega);obtain rfl:false=e:=f.symm.trans x.out;have J:(4096:Int)<(ts.length:Int):=by omega
  clear f g;go_enter func39,ntmps39;go_wp2_with fail;(try rw[k]);clear k;go_ret2;exact⟨_,_,_,rfl,a⟩
 have f:decide (ts.length<=4096)=true:=decide_eq_true (by omega);obtain rfl:true=e:=f.symm.trans x.out;have J:¬(4096:Int)<(ts.length:Int):=by omega
 clear f;go_enter func39,ntmps39;go_wp2_with fail;(try rw[k]);clear k;refine(g _ (H.be a) (hv.be a) (by omega)).mono ?_;rintro P Z ⟨K,V,E,rfl,z⟩;replace X:=X.be z;replace a:=aC a z;replace hv:=hv.be a;have G:=X.g2;clear g;cases j with
 |false=>
  go_wp2;go_ret2;exact⟨_,_,_,rfl,a⟩
 |true=>
  cases hts:ts with
  |nil=>
   subst hts;obtain rfl:true=d:=s.out;go_wp2;go_ret2;exact⟨_,_,_,rfl,a⟩
  |cons t r=>
   subst hts;have z1:(0:Int)<((t :: r).length:Int):=by rw[eG];omega
   have z2:0<(t :: r).length:=by simp
   obtain⟨b,Y,u,rfl,U,E,F,p⟩:=hv.at_ (i:=0) (t:=t) rfl;rw[azW,gQ] at F;have B:=fun W p=>eqO t.2 u W p (y.out.ex t (by simp));have o:decide (0<=gX t.2)=d:=s.out;rw[o] at B;have L:=aB o;clear o;have M:Hid ((t :: r).length=r.length+1):=by unfold Hid;simp
   generalize (t :: r).length=N at *;go_wp2_with fail;refine(B _ p).mono ?_;rintro Q w2 ⟨rfl,rfl⟩;cases d
   all_goals (
    go_wp2;go_ret2;exact⟨_,_,_,rfl,a⟩)
def fyP(vars:Int)(ts:List Te)(v:Value)(w:World)(d:Glob w)(hv:TesAt w v ts)(g:PolyOk vars ts):
  Calls prog 18 #[.agg #[.int .i64 vars,v]] w fun e w'=>e= .returned (.bool (tN vars ts))∧Below w.1.size w w':=by
 have h:=fun W h hv=>gyA vars ts v W h hv g;obtain⟨A,c,rfl,m⟩:=hv.form;obtain⟨W,b,a,X⟩:=bI w [.int .i64 vars,.slice A ts.length c] 24;have k:=X.g2;unfold ezY at h;generalize tN vars ts=V at *;go_enter func18,ntmps18;go_wp2_with fail;(try rw[b]);clear b;refine(h _ (d.be a) (hv.be a)).mono ?_;rintro l o ⟨i,n,j,rfl,f⟩;go_wp2;go_ret;exact⟨rfl,aC a f⟩
def sF(ts:List Te):Int:=match ts with|[]=> -1|t :: _=>gX t.2
def gyB(vars:Int)(ts:List Te)(v:Value)(w:World)(p:Glob w)(hv:TesAt w v ts)(f:PolyOk vars ts)(l:tN vars ts=true):
  Calls prog 20 #[.agg #[.int .i64 vars,v]] w fun e w'=>e= .returned (.int .i64 (sF ts))∧Below w.1.size w w':=by
 have h:=fun W h hv=>fyP vars ts v W h hv f;rw[l] at h;obtain⟨A,c,rfl,D⟩:=hv.form;obtain⟨W,g,a,X⟩:=bI w [.int .i64 vars,.slice A ts.length c] 24;have o:=X.g2;cases ts with
 |nil=>
  clear h;go_enter func20,ntmps20;go_wp2;go_ret;exact⟨rfl,(aG _ _).alloc aE _⟩
 |cons t r=>
  have k:sF (t :: r)=gX t.2:=rfl;rw[k];have s:=fun W u d=>fxT t.2 u W d (f.ex t (by simp));have m:=aB (fun W (q:TesAt W (.slice A (t :: r).length c) (t :: r))=>q.at_ (i:=0) (t:=t) rfl);have H:((((t :: r).length:Nat):Int)==0)=false:=by rw[beq_eq_false_iff_ne,eG];omega
  have I:0<(t :: r).length:=by simp
  have J:(0:Int)<((t :: r).length:Int):=by rw[eG];omega
  have x:Hid (TesAt w (.slice A (t :: r).length c) (t :: r)):=hv;clear k f l;generalize (t :: r).length=N at *;go_enter func20,ntmps20;go_wp2_with fail;(try rw[g]);clear g;refine(h _ (p.be a) (hv.be a)).mono ?_;rintro B y ⟨rfl,j⟩;replace X:=X.be j;replace a:=aC a j;obtain⟨b,F,u,rfl,E,z,n,d⟩:=m.out y (x.out.be a);rw[azW,gQ] at n;have o:=X.g2;clear h;go_wp2_with fail;refine(s _ _ d).mono ?_;rintro C G ⟨rfl,rfl⟩;go_wp2;go_ret;exact⟨rfl,a⟩
def gx7{cap:Nat}{ks:List (Fin 64)}{enc:Fin 64->List Value}(e:∀x,(enc x).length=10)(h:w.ownsRow B 109 10 (.slice (some ⟨g,0,none⟩) ks.length cap) ks.length (ks.flatMap enc)):Go.Sort.HoldsK enc 10 w g 0 ks.toArray:=by
 intro t b;rw[Go.Sort.size_flatK] at b;have n:t<ks.length*10:=by simpa using b
 have l:=h.cellAt t n;rw[bA];refine⟨?_,h.frozenAt t⟩;rw[l,Go.Sort.get_flatK _ _ _ _ b];have f:t/10<ks.length:=by omega
 have a:t%10<10:=dI _ (by decide);have d:=mW (rows:=ks.map enc) (k:=10) (fun r a=>by obtain⟨x, -,rfl⟩:=List.mem_map.1 a;exact e x) (i:=t/10) (r:=enc ks[t/10]) (by rw[iK,aR f];rfl) a;rw[show t/10*10+t%10=t by omega] at d;rw[List.flatMap_def,d];have m:t/10<ks.toArray.size:=by simpa using f
 have j:ks.toArray[t/10]! =ks[t/10]:=by rw[getElem!_pos ks.toArray _ m];simp
 have c:t%10<(enc ks[t/10]).length:=by rw[e];exact a
 rw[j,aR c,getElem!_pos (enc ks[t/10]) (t%10) c];rfl
def L9(m:Nat)(a:Nat->List Value)(k:Fin 64):List Value:=if k.val<m then a k.val else [.bool false,.bool false,.bool false,.bool false]
def DE(k:Nat):Fin 64:=⟨k%64,dI _ (by decide)⟩
def eqG(h:k<64):(DE k).val=k:=jJ h
def gx8(d:m<=64){a:Nat->List Value}(b:∀k∈ks,k<m):ks.flatMap (lQ i a)=(ks.map DE).flatMap (tH i (L9 m a)):=by
 rw[List.flatMap_map,List.flatMap_def,List.flatMap_def];congr 1;refine by3 fun k h=> ?_;have c:=b k h;unfold lQ tH L9;rw[eqG (by omega),if_pos c]
def fyD{a:Nat->List Value}(h:∀k<m,(a k).length=4)(k:Fin 64):(L9 m a k).length=4:=by
 unfold L9;split
 ·exact h _ (by assumption)
 ·rfl
def gx9{b:Nat->List Value}{p:Nat->Rat}(h:∀k<m,(b k).length=4∧RatAt w (.agg (b k).toArray) (p k))(k:Fin 64):∀v∈L9 m b k,v.oneCell'=true:=fun v hv=>by
 unfold L9 at hv;split at hv
 ·rename_i g;obtain⟨s,A,n,c,j,d,i,c',e⟩:=(h _ g).2.form;have f:b k.val=[.bool s,.slice A n c,.bool j,.slice d i c']:=by
   have:=congrArg (fun v=>match v with| .agg a=>a.toList|_=>[]) e;simpa using this
  rw[f] at hv;simp only[List.mem_cons,List.not_mem_nil,or_false] at hv;rcases hv with rfl|rfl|rfl|rfl<;>rfl
 ·simp only[List.mem_cons,List.not_mem_nil,or_false] at hv;rcases hv with rfl|rfl|rfl|rfl<;>rfl
def l6(m:Nat)(p:Nat->Rat):List Nat:=((List.range m).filter fun k=>decide (p k≠0)).reverse
def ezO{p:Nat->Rat}(h:k∈l6 m p):k<m∧p k≠0:=by
 unfold l6 at h;rw[List.mem_reverse,List.mem_filter,List.mem_range] at h;exact⟨h.1,by simpa using h.2⟩
def fyE(m:Nat)(p:Nat->Rat):(l6 m p).length<=m:=by
 unfold l6;rw[List.length_reverse];exact aH (List.length_filter_le _ _) (by rw[bxZ];exact aE)
def gxA(m:Nat)(p:Nat->Rat):(l6 m p).Pairwise (fun x y=>y<x):=by
 unfold l6;rw[List.pairwise_reverse];exact(List.pairwise_lt_range (n:=m)).filter _
def fyF(hi:i<6)(l:m<=64){p:Nat->Rat}{a:Nat->List Value}{cap:Nat}(n:ks.Perm ((List.range m).filter fun k=>decide (p k≠0)))
  (o:w.ownsRow B 109 10 (.slice (some ⟨g,0,none⟩) ks.length cap) ks.length (ks.flatMap (lQ i a)))(d:∀k<m,(a k).length=4∧RatAt R (.agg (a k).toArray) (p k)):
  ks.length=(l6 m p).length∧Calls prog 98 #[.slice (some ⟨g,0,none⟩) ks.length cap,.func (.func 99) #[] #[]] w fun e w'=>e= .returned (.tuple #[])∧
   (∀(j k:Nat),(l6 m p)[j]? =some k->∀c u,(lQ i a k)[c]? =some u->w'.cell? ⟨g,0+j*10+c,none⟩=some u)∧w.grownBy w' (some g):=by
 have O:∀k∈ks,k<m:=fun k b=>by
  have:=n.mem_iff.1 b;rw[List.mem_filter,List.mem_range] at this;exact this.1
 have L:ks.length=(l6 m p).length:=by rw[n.length_eq];unfold l6;rw[List.length_reverse]
 refine⟨L,?_⟩;rw[gx8 l O] at o;have K:g<w.1.size:=(o.lt g (by simp[Value.ownBlock])).2;have s:∀x,(tH i (L9 m a) x).length=10:=fun x=>by unfold tH;rw[bN,cH,kE,fyD (fun k b=>(d k b).1)]
 have N:(ks.map DE).length=ks.length:=cH ..;have E:=gx7 (ks:=ks.map DE) s (by rw[N];exact o);have J:(ks.map DE).Perm ((l6 m p).map DE):=by
  refine List.Perm.map _ (n.trans ?_);unfold l6;exact(List.reverse_perm _).symm
 have P:((l6 m p).map DE).Pairwise (fun x y=>y.val<x.val):=by
  rw[List.pairwise_map];refine(gxA m p).imp_of_mem fun F G h=> ?_;rw[eqG (aZ (ezO F).1 l),eqG (aZ (ezO G).1 l)];exact h
 have h:=gxR hi (L9 m a) (fyD fun k b=>(d k b).1) (gx9 d) (ks.map DE).toArray g cap w E K (by simp;have:=fyE m p;omega) ((l6 m p).map DE) J P;have Q:(ks.map DE).toArray.size=ks.length:=by simp
 rw[Q] at h;refine h.mono ?_;rintro e w' ⟨rfl,v,z⟩;refine⟨rfl,fun j k f c u q=> ?_,z⟩;have r:=(List.getElem?_eq_some_iff.1 f).1;have M:=(ezO (dG f)).1;have I:lQ i a k=tH i (L9 m a) (DE k):=by
  unfold lQ tH L9;rw[eqG (by omega),if_pos M]
 rw[I] at q;have H:c<10:=by rw[<-s (DE k)];exact(List.getElem?_eq_some_iff.1 q).1
 have A:=(v.cell (i:=j) (c:=c) (by simpa using r) H).1;rw[A];have t:((l6 m p).map DE).toArray[j]! =DE k:=by
  rw[getElem!_pos _ _ (by simpa using r)];have:=(List.getElem?_eq_some_iff.1 f).2;simp[this]
 obtain⟨C,D⟩:=List.getElem?_eq_some_iff.1 q;rw[t,getElem!_pos (tH i (L9 m a) (DE k)) c C,D]
def fyC:(Tryz.prog.info? 40).map (fun i=>(i.zero,i.size,i.bytes))=some (some (.agg #[.string ⟨#[]⟩,.slice none 0 0]),2,40):=by kernel_rfl
def fx2:(Tryz.prog.info? 3).map (fun i=>(i.zero,i.size,i.bytes))=some (some (.int .i64 0),1,8):=by kernel_rfl
def ez6(vars i m:Nat)(p:Nat->Rat):List Te:=(l6 m p).map fun k=>(cW (p k),bG vars i k)
def gx3(hi:i<6)(b:k<=24):0<=gX (bG 6 i k):=by
 have c:=dz1 (v:=6) k hi;unfold gX;rw[kE,if_neg (by decide),eq2 (fun x a=>by rcases I6 a with h|h<;>omega) (by omega)];omega
structure TmJ(w:World)(g j vars i:Nat)(l:List Nat)(p:Nat->Rat):Prop where
 lt:g<w.1.size
 done:∀t<j,∀k,l[t]? =some k->∃u,w.cell? ⟨g,t*2,none⟩=some (.string ⟨(cW (p k)).toArray⟩)∧w.cell? ⟨g,t*2+1,none⟩=some u∧IntsAt w u (bG vars i k)∧∃b o n c,u= .slice (some ⟨b,o,none⟩) n c∧g<b
 rest:∀t,j<=t->t<l.length->w.cell? ⟨g,t*2,none⟩=some (.string ⟨#[]⟩)∧w.cell? ⟨g,t*2+1,none⟩=some (.slice none 0 0)
 free:∀c,w.frozen? ⟨g,c,none⟩=false
section
variable {w w':World}{g j vars i:Nat}{l:List Nat}{p:Nat->Rat}
def TmJ.be(h:TmJ w g j vars i l p)(a:Below w.1.size w w'):TmJ w' g j vars i l p:=
 ⟨aZ h.lt a.size,fun t n k m=>by
  obtain⟨u,b,d,e,f⟩:=h.done t n k m;exact⟨u,(a.cell (p:=⟨g,_,none⟩) h.lt).trans b,(a.cell (p:=⟨g,_,none⟩) h.lt).trans d,e.be a,f⟩,fun t b d=>⟨(a.cell (p:=⟨g,_,none⟩) h.lt).trans (h.rest t b d).1,(a.cell (p:=⟨g,_,none⟩) h.lt).trans (h.rest t b d).2⟩,fun c=>by
  rw[World.frozen?_of_block (a.block g h.lt)];exact h.free c⟩
def TmJ.tes(h:TmJ w g l.length vars i l p)(hn:n=l.length)(r:B<=g):TesN B w (.slice (some ⟨g,0,none⟩) n n) (l.map fun k=>(cW (p k),bG vars i k)):=by
 refine⟨_,_,by rw[cH,hn],by rw[cH];omega,.inr ⟨g,0,rfl,r,h.lt,fun t e a=> ?_⟩⟩;rw[iK] at a;obtain⟨k,d,rfl⟩:=Option.map_eq_some_iff.1 a;obtain⟨u,f,m,q,b,o,s,c,rfl,v⟩:=h.done t (List.getElem?_eq_some_iff.1 d).1 k d;exact⟨b,o,s,c,by rw[bA];exact f,by rw[bA];exact m,by omega,q⟩
def TmJ.far(h:TmJ w g j vars i l p)(x:b<g)(o:Nat)(v:Value):TmJ (w.setCell ⟨b,o,none⟩ v) g j vars i l p:=by
 have e:b≠g:=by omega
 refine⟨by simpa using h.lt,fun t r k q=> ?_,fun t a d=>⟨(aL _ _ _ _ _ _ e).trans (h.rest t a d).1,(aL _ _ _ _ _ _ e).trans (h.rest t a d).2⟩,fun c=>by simpa using h.free c⟩;obtain⟨u,a,d,f,s,y,n,c,rfl,m⟩:=h.done t r k q;exact⟨_,(aL _ _ _ _ _ _ e).trans a,(aL _ _ _ _ _ _ e).trans d,f.off (by omega) v,_,_,_,_,rfl,m⟩
def TmJ.put(h:TmJ w g j vars i l p)(u:l[j]? =some k){o:Nat}(B:IntsAt w (.slice (some ⟨b,o,none⟩) n c) (bG vars i k))(r:g<b)(W:World)(e:(w.setCell ⟨g,j*2,none⟩ (.string ⟨(cW (p k)).toArray⟩)).setCell ⟨g,j*2+1,none⟩ (.slice (some ⟨b,o,none⟩) n c)=W):TmJ W g (j+1) vars i l p:=by
 have z:=(List.getElem?_eq_some_iff.1 u).1;obtain⟨E,F⟩:=h.rest j aE z;have G:(w.setCell ⟨g,j*2,none⟩ (.string ⟨(cW (p k)).toArray⟩)).cell? ⟨g,j*2+1,none⟩=some (.slice none 0 0):=by
  rw[World.cell?_setCell_other _ _ _ _ (by simp)];exact F
 have s:∀{b o n c e},g<b->IntsAt w (.slice (some ⟨b,o,none⟩) n c) e->IntsAt W (.slice (some ⟨b,o,none⟩) n c) e:=fun J h=>e ▸ (h.off (by omega) _).off (by omega) _;have d:∀c,c≠j*2->c≠j*2+1->W.cell? ⟨g,c,none⟩=w.cell? ⟨g,c,none⟩:=fun c f a=>by
  rw[<-e,World.cell?_setCell_other _ _ _ _ (by simp<;>omega),World.cell?_setCell_other _ _ _ _ (by simp<;>omega)]
 refine⟨by rw[<-e];simpa using h.lt,fun t L x m=> ?_,fun t f a=> ?_,fun c=> ?_⟩
 ·rcases dE t j with A|K
  ·obtain⟨v,f,a,y,H,N,M,I,rfl,q⟩:=h.done t A x m;exact⟨_,(d _ (by omega) (by omega)).trans f,(d _ (by omega) (by omega)).trans a,s q y,_,_,_,_,rfl,q⟩
  ·obtain rfl:t=j:=by omega
   obtain rfl:k=x:=by rw[u] at m;exact Option.some.inj m
   refine⟨_,?_,?_,s r B,_,_,_,_,rfl,r⟩
   ·rw[<-e,World.cell?_setCell_other _ _ _ _ (by simp)];exact World.cell?_setCell_same _ _ _ E
   ·rw[<-e];exact World.cell?_setCell_same _ _ _ G
 ·obtain⟨C,D⟩:=h.rest t (by omega) a;exact⟨(d _ (by omega) (by omega)).trans C,(d _ (by omega) (by omega)).trans D⟩
 ·rw[<-e];simpa using h.free c
end
def gx4{t:Nat}(h:VC w g 0 (madeCells (Value.agg #[.string ⟨#[]⟩,.slice none 0 0]).cells (n*2)).toList)(c:t<n):w.cell? ⟨g,t*2,none⟩=some (.string ⟨#[]⟩)∧w.cell? ⟨g,t*2+1,none⟩=some (.slice none 0 0):=by
 have a:=h (t*2) (.string ⟨#[]⟩) (by simp[madeCells,Value.cells,show t*2<n*2 by omega]);have b:=h (t*2+1) (.slice none 0 0) (by simp[madeCells,Value.cells,Nat.add_mod,show t*2+1<n*2 by omega]);rw[bA] at a b;exact⟨a,b⟩
def gx5(a:vars<=6):cV (List.replicate vars 0) (bG 6 i k)=bG vars i k:=by
 unfold cV bG;rw[dB,eM,dB,bxL,List.take_set,List.take_replicate,y8 a,show vars-6=0 by omega,aq8,fH]
def gx6(i m vars:Nat)(cg:i<vars)(h6:vars<=6)(hm:m<=25)(p:Nat->Rat)(O:Nat->List Value)(ks:List Nat)(E w:World)(g cap:Nat)(hG:Glob E)(ah:Below E.1.size E w)
  (hp:ks.Perm ((List.range m).filter fun k=>decide (p k≠0)))(hr:w.ownsRow E.1.size 109 10 (.slice (some ⟨g,0,none⟩) ks.length cap) ks.length (ks.flatMap (lQ i O)))
  (hc:∀k<m,(O k).length=4∧RatAt E (.agg (O k).toArray) (p k))(bk:∀k<m,RL 1 (p k)):
  Calls prog 48 #[.int .i64 vars,.slice (some ⟨g,0,none⟩) ks.length cap] w fun e w'=>∃u,e= .returned (.tuple #[.agg #[.int .i64 vars,u],.int .i64 0])∧TesN w.1.size w' u (ez6 vars i m p)∧Below E.1.size E w':=by
 have hi:i<6:=by omega
 have bi:=(fyF hi (by omega) hp hr hc).1;have bo:=fun W h=>(fyF (w:=W) (g:=g) (cap:=cap) (B:=E.1.size) hi (by omega) hp h hc).2;have hn:=fyE m p;obtain⟨ce,b9⟩:=hr.lt g (by simp[Value.ownBlock]);have q0:¬(4096<(ks.length:Int)):=by omega
 have cd:decide (4096<(ks.length:Int))=false:=decide_eq_false q0;have HC:=aB hc;have b0:=aB bk;have HN:=aB bi;clear hp hc bk bi;generalize ks.length=n at *;have R:Bx (w.alloc (.cells #[.int .i64 0,.slice none 0 0] 24)) (w.1.size) [.int .i64 0,.slice none 0 0] 24:=Bx.newAt w [.int .i64 0,.slice none 0 0] 24 (w.1.size) (by simp);have hb:Below w.1.size w (w.alloc (.cells #[.int .i64 0,.slice none 0 0] 24)):=(aG _ _).alloc (by simp) _;go_enter func48,ntmps48;go_wp2_with fail;generalize w.alloc (.cells #[.int .i64 0,.slice none 0 0] 24)=W at *;refine(bo _ (eqH hr hb)).mono ?_;rintro e1 b ⟨rfl,hC,ak⟩;have R1:Bx b w.1.size _ _:=(ak.block _ R.lt (fun e=>by injection e with e;omega)).trans R;have an:Below E.1.size E b:=(aC ah hb).trans (pT ak (aH ah.size hb.size) (fun x e=>by injection e with e;omega));have al:g<b.1.size:=aZ b9 (aH hb.size ak.size);have cR:=R1.g2;have ay:w.1.size<b.1.size:=R1.lt;have bu:E.1.size<=w.1.size:=ah.size;clear bo ak hr hb;have bx:=aB hC;have a1:Hid ((0:Int)<(n:Int)->∃k r y z A C D,k<m∧bG 6 i k=[r,y,z,A,C,D]∧IntsAt b (.slice (some ⟨g,0,none⟩) 6 6) [r,y,z,A,C,D]):=fun h0=>by
  have M:0<(l6 m p).length:=by have:=HN.out;omega
  obtain⟨r,y,z,A,C,D,J⟩:=X8 i (l6 m p)[0];refine⟨(l6 m p)[0],r,y,z,A,C,D,(ezO (aq0 M)).1,J,?_⟩;refine⟨_,_,rfl,aE,Rd.mk al fun c hc=> ?_⟩;have N:∀c u,([.int .i64 r,.int .i64 y,.int .i64 z,.int .i64 A,.int .i64 C,.int .i64 D]:List Value)[c]? =some u->b.cell? ⟨g,c,none⟩=some u:=fun c u V=>by
   have h:=hC 0 _ (aR M) c u (by
    unfold lQ;rw[J,gA (by rw[cH];exact(List.getElem?_eq_some_iff.1 V).1)];exact V)
   rwa [show 0+0*10+c=c by omega] at h
  rw[bA];match c,hc with
  |0,_=>exact N 0 _ rfl
  |1,_=>exact N 1 _ rfl
  |2,_=>exact N 2 _ rfl
  |3,_=>exact N 3 _ rfl
  |4,_=>exact N 4 _ rfl
  |5,_=>exact N 5 _ rfl
 clear hC;have cc:n=0∨(0:Int)<(n:Int):=by omega
 rcases cc with ae|ae;rotate_left
 focus (
  obtain⟨f,r,y,z,A,C,D,ad,J,bf⟩:=a1.out ae
  have ax:=fun W h=>eqO [r,y,z,A,C,D] (.slice (some ⟨g,0,none⟩) 6 6) W h (fun x N=>by
   rw[<-J] at N;rcases I6 N with h|h<;>omega)
  have bb:decide (0<=gX [r,y,z,A,C,D])=true:=decide_eq_true (by rw[<-J];exact gx3 hi (by omega));simp only[bb] at ax;clear bb J;have au:decide ((0:Int)<(n:Int))=true:=decide_eq_true ae;go_wp2_with fail;refine(ax _ bf).mono ?_;rintro e2 w2 ⟨rfl,rfl⟩;go_upto_region 6 with fail;clear ax bf ad au ae;skip)
 rotate_left
 focus (
  have au:decide ((0:Int)<(n:Int))=false:=decide_eq_false (by omega);have b4:decide (0<n)=false:=decide_eq_false (by omega);have b5:¬(0<n):=by omega
  clear ae;go_upto_region 6 with fail;clear au b4 b5;skip)
 all_goals (
  clear a1;go_wp2_with (at_make;refine OS rfl rfl 40 _ 2 40 underlying22 fyC n rfl rfl (by first|rfl|omega) (by first|rfl|omega) (by omega) (by omega) ?_;intro w2 az bm a8 ao;obtain⟨w3,e3,ap,P⟩:=bI w2 [.int .i64 vars,.slice (some ⟨b.1.size,0,none⟩) n n] 24);(try rw[e3]);clear e3;have bg:TmJ w3 b.1.size 0 vars i (l6 m p) p:=TmJ.be ⟨az,fun t ht=>absurd ht (Nat.not_lt_zero _),fun t _ ht=>gx4 a8 (by rw[HN.out];exact ht),fun c=>by exact bm.free c⟩ ap;have ac:=aC ao ap;have X:=R1.be ac;have a2:Hid (∀(j k:Nat),(l6 m p)[j]? =some k->∀c u,(lQ i O k)[c]? =some u->w3.cell? ⟨g,0+j*10+c,none⟩=some u):=fun j k M c u V=>(ac.cell (p:=⟨g,_,none⟩) al).trans (bx.out j k M c u V);have Q:=aC an ac;have ab:=aZ al ac.size;have cj:b.1.size<w2.1.size:=az;clear az bm a8 ao ap ac R1 cR;go_loopg [35] n (fun k vi wr=>∃j:Nat,Hid (j+k=n)∧vi= .int .i64 j∧TmJ wr b.1.size j vars i (l6 m p) p∧Hid (∀(j k:Nat),(l6 m p)[j]? =some k->∀c u,(lQ i O k)[c]? =some u->wr.cell? ⟨g,0+j*10+c,none⟩=some u)∧g<wr.1.size∧Bx wr w.1.size [.int .i64 0,.slice none 0 0] 24∧Bx wr w2.1.size [.int .i64 vars,.slice (some ⟨b.1.size,0,none⟩) n n] 24∧Below E.1.size E wr)
  case atStart=>exact⟨0,by unfold Hid;omega,rfl,bg,a2,ab,X,P,Q⟩
  case round=>
   clear bg a2 ab X P Q;obtain⟨j,HJ,rfl,hT,af,ab,X,P,Q⟩:=hrel;generalize wr=wy at *;cases gk with
   |zero=>
    have M:j=n:=HJ.out;subst M;have a4:=(hT.far ay 0 (.int .i64 vars)).far ay 1 (.slice (some ⟨b.1.size,0,none⟩) j j);have bq:∀W:World,TmJ W b.1.size j vars i (l6 m p) p->Hid (TesN w.1.size W (.slice (some ⟨b.1.size,0,none⟩) j j) (ez6 vars i m p)):=fun W h=>TmJ.tes (by rw[<-HN.out];exact h) HN.out (iE ay);have cb:=bq _ a4;have R5:=(X.set 0 (.int .i64 vars)).set 1 (.slice (some ⟨b.1.size,0,none⟩) j j);have Y:=(Q.setCell (p:=⟨w.1.size,0,none⟩) bu (.int .i64 vars)).setCell (p:=⟨w.1.size,1,none⟩) bu (.slice (some ⟨b.1.size,0,none⟩) j j);have bw:=aB Y;have a0:=aB R5;clear hT a4 bq af Y R5;have cM:=aa X.g2 P.g2;go_wp2_with fail;exact aM (v:= .tuple #[.agg #[.int .i64 vars,.slice (some ⟨b.1.size,0,none⟩) j j],.int .i64 0]) (by simp[results,results48,go_sem,a0.out.cell 0 rfl,a0.out.cell 1 rfl]) rfl ⟨_,rfl,cb.out,bw.out⟩
   |succ k=>
    have bh:j<(l6 m p).length:=by have:=HJ.out;have:=HN.out;omega
    have q1:(j:Int)<(n:Int):=by have:=HJ.out;omega
    have q2:(0:Int)<=(j:Int):=by omega
    obtain⟨f,hk⟩:∃f,(l6 m p)[j]? =some f:=⟨_,aR bh⟩;have ad:=(ezO (dG hk)).1;obtain⟨r,y,z,A,C,D,J⟩:=X8 i f;obtain⟨s1,Z,k1,c1,s2,A2,k2,c2,er⟩:=(HC.out f ad).2.form;have aw:=(HC.out f ad).2.be Q;have am:O f=[.bool s1,.slice Z k1 c1,.bool s2,.slice A2 k2 c2]:=by
     have:=congrArg (fun v=>match v with| .agg a=>a.toList|_=>[]) er;simpa using this
    have ba:lQ i O f=[.int .i64 r,.int .i64 y,.int .i64 z,.int .i64 A,.int .i64 C,.int .i64 D,.bool s1,.slice Z k1 c1,.bool s2,.slice A2 k2 c2]:=by unfold lQ;rw[J,am];rfl
    have F:=af.out j f hk;rw[ba] at F;simp only[bA] at F;have d0:=F 0 _ rfl;have d1:=F 1 _ rfl;have d2:=F 2 _ rfl;have d3:=F 3 _ rfl;have d4:=F 4 _ rfl;have d5:=F 5 _ rfl;have d6:=F 6 _ rfl;have d7:=F 7 _ rfl;have d8:=F 8 _ rfl;have d9:=F 9 _ rfl;simp only[gQ] at d0;rw[am] at aw;have bz:=aB J;have HK:=aB hk;clear J hk er am ba F;obtain⟨G,e4,Y,T⟩:=bI wy [.int .i64 r,.int .i64 y,.int .i64 z,.int .i64 A,.int .i64 C,.int .i64 D,.bool s1,.slice Z k1 c1,.bool s2,.slice A2 k2 c2] 109;go_upto_region 10 with fail;(try rw[e4]);clear e4;clear d0 d1 d2 d3 d4 d5 d6 d7 d8 d9;have lT:=T.lt;go_upto_region 11 with (at_make;refine kG rfl rfl .i64 3 8 underlying38 fx2 vars rfl rfl (by first|rfl|omega) (by first|rfl|omega) (by omega) (by omega) ?_;intro w5 bv bn a9 ai);have T5:=T.be ai;have hy:Rd .i64 w5 (some ⟨wy.1.size,0,none⟩) [r,y,z,A,C,D]:=by
     obtain⟨A',c',hv, -,h⟩:=fx3 wy.1.size w5 r y z A C D [.bool s1,.slice Z k1 c1,.bool s2,.slice A2 k2 c2] _ T5;injection hv with e1 e2 e3;rw[e1];exact h
    go_upto_region 12 with (with_reducible refine mK rfl (d:= .tmp 42) (s:= .tmp 44) rfl .i64 3 underlying38 eqM rfl rfl G.1.size 0 (List.replicate vars 0) [r,y,z,A,C,D] (by simp) rfl (fun _=>rfl) a9 bn hy ?_;intro I ar av);have a6:Below G.1.size w5 I:=av.be ai.size aE;have aq:Below G.1.size G I:=ai.trans a6;have U:=aC Y aq;have T6:=T.be aq;have P6:=P.be U;have R6:=X.be U;have a5:=hT.be U;have bj:=aw.be U;have aj:=aC Q U;have ci:g<b.1.size:=al;have bt:E.1.size<=b.1.size:=an.size;have ch:b.1.size<wy.1.size:=hT.lt;have ca:b.1.size<G.1.size:=aZ hT.lt Y.size;have br:IntsAt I (.slice (some ⟨G.1.size,0,none⟩) vars vars) (bG vars i f):=by
     rw[<-bz.out,gx5 h6] at ar;refine⟨_,_,by rw[kE],by rw[kE];exact aE,Rd.mk (aZ bv av.grown.size) ar⟩
    have bp:=fun W h h'=>I4 (p f) (.agg #[.bool s1,.slice Z k1 c1,.bool s2,.slice A2 k2 c2]) W h h' 1 (b0.out f ad) (by decide);have bc:g<I.1.size:=aZ ab U.size;have a3:Hid (∀(j k:Nat),(l6 m p)[j]? =some k->∀c u,(lQ i O k)[c]? =some u->I.cell? ⟨g,0+j*10+c,none⟩=some u):=fun j k M c u V=>(U.cell (p:=⟨g,_,none⟩) ab).trans (af.out j k M c u V);clear ar av a6 aq U hT X af hy T5 bv bn a9 ai Y aw Q ab;refine wp_region_noPanic ?_;refine wp_region_held_drew (S:=(fun w'=>C2 w' w2.1.size (.int .i64 vars) (.slice (some ⟨b.1.size,0,none⟩) n n)∧eq0 w' wy.1.size (.int .i64 r) (.int .i64 y) (.int .i64 z) (.int .i64 A) (.int .i64 C) (.int .i64 D) (.bool s1) (.slice Z k1 c1) (.bool s2) (.slice A2 k2 c2))) (by kernel_rfl) (by(try dsimp only);(exact⟨P6.k2,T6.k10⟩)) (fun L=> ?_);refine b6 (v:= ?_) 0 46 rfl rfl (by kernel_rfl) (fun _ _ _ h=>h) (by rfl) L ?_ ?_;rotate_left;focus (intro w q;(try dsimp only at q);go_simp;(try with_reducible rfl);done)
    (try simp only[Act.put,List.setIfInBounds_toArray,bzS,List.set_cons_succ]);refine b6 (v:= ?_) 1 47 rfl rfl (by kernel_rfl) (fun _ _ _ h=>h) (by rfl) L ?_ ?_;rotate_left;focus (intro w q;(try dsimp only at q);go_simp;(try with_reducible rfl);done)
    (try simp only[Act.put,List.setIfInBounds_toArray,bzS,List.set_cons_succ]);refine b6 (v:= ?_) 2 48 rfl rfl (by kernel_rfl) (fun _ _ _ h=>h) (by rfl) L ?_ ?_;rotate_left;focus (intro w q;(try dsimp only at q);go_simp;(try with_reducible rfl);done)
    (try simp only[Act.put,List.setIfInBounds_toArray,bzS,List.set_cons_succ]);refine b6 (v:= ?_) 3 49 rfl rfl (by kernel_rfl) (fun _ _ _ h=>h) (by rfl) L ?_ ?_;rotate_left;focus (intro w q;(try dsimp only at q);go_simp;(try with_reducible rfl);done)
    (try simp only[Act.put,List.setIfInBounds_toArray,bzS,List.set_cons_succ]);refine b6 (v:= ?_) 4 50 rfl rfl (by kernel_rfl) (fun _ _ _ h=>h) (by rfl) L ?_ ?_;rotate_left;focus (intro w q;(try dsimp only at q);go_simp;(try with_reducible rfl);done)
    (try simp only[Act.put,List.setIfInBounds_toArray,bzS,List.set_cons_succ]);refine b6 (v:= ?_) 6 52 rfl rfl (by kernel_rfl) (fun _ _ _ h=>h) (by rfl) L ?_ ?_;rotate_left;focus (intro w q;(try dsimp only at q);go_simp;(try with_reducible rfl);done)
    (try simp only[Act.put,List.setIfInBounds_toArray,bzS,List.set_cons_succ]);refine wpAnyH_ready (rs:=[5]) (by kernel_rfl) (by simp) (AllReadyH.cons (o:=_) rfl (fun K hK=> ?_) AllReadyH.nil);go_simp;(go_at_call 36;refine(bp _ (hG.be aj.drew) (bj.be (aG I.1.size I).drew)).mono ?_;rintro e7 w7 ⟨rfl,a7⟩);have H:Below I.1.size I w7:=(aG I.1.size I).drew.trans (a7.mono aE);go_wp2_with fail;refine hK.out _ _ (by(try dsimp only);(exact⟨(P6.be H).k2,(T6.be H).k10⟩)) (fun L=> ?_);clear hK K;(try simp only[Act.put,List.setIfInBounds_toArray,bzS,List.set_cons_succ]);refine b6 (v:= ?_) 7 53 rfl rfl (by kernel_rfl) (fun _ _ _ h=>h) (by rfl) L ?_ ?_;rotate_left;focus (intro w q;(try dsimp only at q);go_simp;(try with_reducible rfl);done)
    (try simp only[Act.put,List.setIfInBounds_toArray,bzS,List.set_cons_succ]);refine b6 (v:= ?_) 8 54 rfl rfl (by kernel_rfl) (fun _ _ _ h=>h) (by rfl) L ?_ ?_;rotate_left;focus (intro w q;(try dsimp only at q);go_simp;(try with_reducible rfl);done)
    (try simp only[Act.put,List.setIfInBounds_toArray,bzS,List.set_cons_succ]);have ag:=a5.be H;obtain⟨r1,r2⟩:=ag.rest j aE bh;have b7:=ag.free;have bs:=br.be H;have n1:b.1.size≠w2.1.size:=by omega
    have n2:b.1.size≠wy.1.size:=by omega
    have n3:b.1.size≠w.1.size:=by omega
    have n4:b.1.size≠g:=by omega
    refine wpAnyH_ready (rs:=[9]) (by kernel_rfl) (by simp) (AllReadyH.cons (o:=_) rfl (fun K hK=> ?_) AllReadyH.nil);go_simp;have P8:=((P6.be H).far (j*2) (.string ⟨(cW (p f)).toArray⟩) n1).far (j*2+1) (.slice (some ⟨G.1.size,0,none⟩) vars vars) n1;have T8:=((T6.be H).far (j*2) (.string ⟨(cW (p f)).toArray⟩) n2).far (j*2+1) (.slice (some ⟨G.1.size,0,none⟩) vars vars) n2;have R8:=((R6.be H).far (j*2) (.string ⟨(cW (p f)).toArray⟩) n3).far (j*2+1) (.slice (some ⟨G.1.size,0,none⟩) vars vars) n3;have b2:=ag.put HK.out bs ca _ rfl;refine hK.out _ _ (by(try dsimp only);(exact⟨P8.k2,T8.k10⟩)) (fun L=> ?_);clear hK K;(try simp only[Act.put,List.setIfInBounds_toArray,bzS,List.set_cons_succ]);refine wpAnyH_done (by kernel_rfl) ?_ _;refine NoPanic.normal ?_;have b3:=((aC aj H).setCell (p:=⟨b.1.size,j*2,none⟩) bt (.string ⟨(cW (p f)).toArray⟩)).setCell (p:=⟨b.1.size,j*2+1,none⟩) bt (.slice (some ⟨G.1.size,0,none⟩) vars vars);have b1:Hid (∀(j' k:Nat),(l6 m p)[j']? =some k->∀c u,(lQ i O k)[c]? =some u->((w7.setCell ⟨b.1.size,j*2,none⟩ (.string ⟨(cW (p f)).toArray⟩)).setCell ⟨b.1.size,j*2+1,none⟩ (.slice (some ⟨G.1.size,0,none⟩) vars vars)).cell? ⟨g,0+j'*10+c,none⟩=some u):=fun j' k M c u V=>(aL _ _ _ _ _ _ n4).trans ((aL _ _ _ _ _ _ n4).trans ((H.cell (p:=⟨g,_,none⟩) bc).trans (a3.out j' k M c u V)));have b8:g<((w7.setCell ⟨b.1.size,j*2,none⟩ (.string ⟨(cW (p f)).toArray⟩)).setCell ⟨b.1.size,j*2+1,none⟩ (.slice (some ⟨G.1.size,0,none⟩) vars vars)).1.size:=by simpa using aZ bc H.size
    clear T8 ag bs r1 r2 b7 H a7 a5 br P6 T6 R6 aj bj bp a3;generalize (w7.setCell ⟨b.1.size,j*2,none⟩ (.string ⟨(cW (p f)).toArray⟩)).setCell ⟨b.1.size,j*2+1,none⟩ (.slice (some ⟨G.1.size,0,none⟩) vars vars)=w8 at *;go_wp2;go_roundg k
    case rel=>exact⟨j+1,by have:=HJ.out;unfold Hid;omega,by go_num,b2,b1,b8,R8,P8,b3⟩
    case measure=>omega)
def VC.set{off:Nat}(h:VC w g off cs)(hi:i<cs.length)(v:Value):VC (w.setCell ⟨g,off+i,none⟩ v) g off (cs.set i v):=by
 intro j u a;by_cases e:j=i
 ·subst e;rw[gP hi] at a;injection a with a;subst a;exact World.cell?_setCell_same _ _ _ (h j _ (aR hi))
 ·rw[lI (Ne.symm e)] at a;rw[World.cell?_setCell_other _ _ _ _ (by simp<;>omega)];exact h j u a
def VC.app{off:Nat}{a:List Value}(h:VC w g off cs)(b:VC w g (off+cs.length) a):VC w g off (cs++a):=by
 intro i v hv;by_cases c:i<cs.length
 ·rw[gA c] at hv;exact h i v hv
 ·rw[fK (by omega)] at hv;have:=b _ v hv;rwa [show off+cs.length+(i-cs.length)=off+i by omega] at this
def fyQ{P:Program}{c:Array Oper}{o:Oper}{a:Act}{Q:Exit->Act->World->Prop}{K:Act->World->Prop}{E:Prop}(k:o.guard=none){d s:Operand}(l:o.op= .call { callee:= .builtin .copy,args:= #[d,s],argTypes:= #[dT,sT] })(e:TypeId)
  (u:P.underlying dT=some (.slice e))(t:(P.info? e).map (·.size)=some 1){dp sp:Option Addr}{dLen dCap sLen sCap:Nat}
  (f:a.eval d= .slice dp dLen dCap)(n:a.eval s= .slice sp sLen sCap)(g off:Nat)(xs ys:List Value)(i:xs.length=dLen)(p:ys.length=sLen)
  (j:0<dLen->dp=some ⟨g,off,none⟩)(y:VC w g off xs)(q:Soft w g)(r:0<sLen->∃b o',sp=some ⟨b,o',none⟩∧VC w b o' ys)(m:∀v∈ys,v.oneCell'=true)
  (h:∀w',VC w' g off (cV xs ys)->Only g off xs.length w w'->K (a.put o.dst (goInt ((Nat.min sLen dLen:Nat):Int))) w'):if Region.wanted o (yielded c a.tmps)=true then Oper.wp P o a w K Q else E:=by
 have x:Region.wanted o (yielded c a.tmps)=true:=by simp[Region.wanted,k]
 rw[if_pos x];exact OW l e u t f n g off xs ys i p j y q r m h
def gyC(a:k<=n):cV ((List.replicate k v++List.replicate (n-k) z).drop k) (List.replicate k v)=List.replicate (min k (n-k)) v++List.replicate (n-k-k) z:=by
 rw[List.drop_append,gO (by simp)];unfold cV;simp only[dB,iM,azV,azZ,bxL];rw[List.take_replicate];congr 2;omega
def gyD:(Tryz.prog.info? 9).map (fun i=>(i.zero,i.size,i.bytes))=some (some (.string ⟨#[]⟩),1,16):=by kernel_rfl
def fyR:(Tryz.prog.info? 9).map (·.size)=some 1:=by kernel_rfl
def gyE(n:Nat):(madeCells (Value.string ⟨#[]⟩).cells (n*1)).toList=List.replicate n (.string ⟨#[]⟩):=by
 rw[az9];refine bzO (by simp[madeCells]) fun i a b=> ?_;simp[madeCells,Value.cells,Nat.mod_one]
def gyF(s:ByteArray)(n:Nat)(A:Option Addr)(c:Nat)(w:World)(aq:n<=1024)(hA:∃b o,A=some ⟨b,o,none⟩∧b<w.1.size∧w.cell? ⟨b,o,none⟩=some (.string s)):
  Calls prog 19 #[.slice A 1 c,.int .i64 n] w fun e w'=>∃g,e= .returned (.slice (some ⟨g,0,none⟩) n n)∧w.1.size<=g∧g<w'.1.size∧VC w' g 0 (List.replicate n (.string s))∧Soft w' g∧Below w.1.size w w':=by
 obtain⟨m,f⟩:∃m,Nat.min 1 n=m:=⟨_,rfl⟩;have ah:m<=n:=by rw[<-f];exact Nat.min_le_right 1 n
 have P:m=0->n=0:=fun e=>by
  have:min 1 n=0:=f.trans e;omega
 have ar:m<=1:=by rw[<-f];exact Nat.min_le_left 1 n
 have ax:¬(n:Int)<0:=by omega
 have am:decide ((9223372036854775807:Int)<(n:Int))=false:=by simp;omega
 have Q:cV (List.replicate n (Value.string ⟨#[]⟩)) [Value.string s]=List.replicate m (.string s)++List.replicate (n-m) (.string ⟨#[]⟩):=by
  unfold cV;have e:min 1 n=m:=f;rw[dB,bxL];rcases iB n with H|H
  ·subst H;have:m=0:=by omega
   subst this;rfl
  ·have:m=1:=by omega
   subst this;rw[cZ (by simp;omega)];rfl
 have U:∀W,Below w.1.size w W->0<1->∃b q,A=some ⟨b,q,none⟩∧VC W b q [.string s]:=fun W r _=>by
  obtain⟨b,o,h1,h2,h3⟩:=hA;refine⟨b,o,h1,fun i v hv=> ?_⟩;match i,hv with
  |0,hv=>
   simp at hv;subst hv;exact(r.cell (p:=⟨b,o,none⟩) h2).trans h3
 have V:∀k,∀v∈List.replicate k (Value.string s),v.oneCell'=true:=fun k v h=>by rw[byK h];rfl
 have al:∀v∈[Value.string s],v.oneCell'=true:=V 1;have L:[Value.string s].length=1:=rfl;have M:(List.replicate n (Value.string ⟨#[]⟩)).length=n:=dB;have F:=aB (And.intro L M);clear L M;have ac:=aB Q;have Z:=aB f;have ab:=aB P;clear Q f P;go_enter func19,ntmps19
 go_wp2_with (first
  |(go_at_call 40;refine(SC n (by omega) _).mono ?_;rintro e w' ⟨rfl,rfl⟩)
  |(at_make;refine OS rfl rfl 9 _ 1 16 underlying25 gyD n rfl rfl (by omega) (by omega) (by omega) (by omega) ?_;intro w1 ak C u t;rw[gyE] at u)
  |(with_reducible refine fq9 rfl (d:= .tmp 31) (s:= .tmp 32) rfl 9 underlying25 fyR (dLen:=n) (sLen:=1) rfl rfl w.1.size 0 (List.replicate n (.string ⟨#[]⟩)) [.string s] F.out.2 F.out.1 (fun _=>rfl) u C (U _ t) al ?_;intro X x z;rw[ac.out] at x;rw[Z.out]))
 have I:Below w.1.size w X:=z.belowOf t aE;have S:=z.soft C;have O:w.1.size<X.1.size:=aZ ak z.grown.size;clear u C t U
 go_loopw [8] (fun i wr=>∃k:Nat,Hid (k=0->n=0)∧k<=n∧i= .int .i64 k∧VC wr w.1.size 0 (List.replicate k (Value.string s)++List.replicate (n-k) (Value.string ⟨#[]⟩))∧Soft wr w.1.size∧Below w.1.size w wr∧w.1.size<wr.1.size)
  (fun i _=>n-(intOf i).toNat)
 case atStart=>exact⟨m,ab,ah,rfl,x,S,I,O⟩
 case round=>
  clear x S I O;obtain⟨k,Y,ao,rfl,l,R,r,N⟩:=hrel;by_cases ap:k<n
  ·have an:1<=k:=by
    rcases iB k with h|h
    ·have:=Y.out h;omega
    ·exact h
   have K:VC wr.drew w.1.size k ((List.replicate k (Value.string s)++List.replicate (n-k) (Value.string ⟨#[]⟩)).drop k):=by have:=l.drop k;rwa [bA] at this
   have T:0<k->∃b q,(some ⟨w.1.size,0,none⟩:Option Addr)=some ⟨b,q,none⟩∧VC wr.drew b q (List.replicate k (Value.string s)):=fun _=>by
    have:=l.take k;rw[bzU (by simp),cZ (by simp)] at this;exact⟨_,_,rfl,this⟩
   have B:Soft wr.drew w.1.size:=R;have J:((List.replicate k (Value.string s)++List.replicate (n-k) (Value.string ⟨#[]⟩)).drop k).length=n-k:=by simp
   have i1:¬n=k:=by omega
   have i2:k<=n:=by omega
   have E:=aB J;clear J;obtain⟨a,au,av,aw,G⟩:∃a:Nat,1<=a∧k+a<=n∧Nat.min k (n-k)=a∧Hid (min k (n-k)=a):=⟨min k (n-k),by omega,by omega,rfl,rfl⟩;go_wp2;go_region_law (refine fyQ rfl (d:= .tmp 41) (s:= .tmp 44) (dT:=25) (sT:=25) rfl 9 underlying25 fyR (dp:=some ⟨w.1.size,k,none⟩) (dLen:=n-k) (dCap:=n-k) (sp:=some ⟨w.1.size,0,none⟩) (sLen:=k) (sCap:=n) (by go_simp) (by go_simp) w.1.size k _ (List.replicate k (Value.string s)) E.out dB (fun _=>rfl) K B T (V k) ?_;intro D y j);rw[E.out] at j;have af:VC D w.1.size 0 (List.replicate (k+a) (Value.string s)++List.replicate (n-(k+a)) (Value.string ⟨#[]⟩)):=by
    rw[gyC i2,G.out] at y;have e:List.replicate (k+a) (Value.string s)++List.replicate (n-(k+a)) (Value.string ⟨#[]⟩)=List.replicate k (Value.string s)++(List.replicate a (Value.string s)++List.replicate (n-k-k) (Value.string ⟨#[]⟩)):=by
     rw[<-eK,bz9];congr 2;have:=G.out;omega
    rw[e];refine VC.app (fun i v hv=> ?_) (by rw[dB,bA];exact y);have hi:i<k:=by have:=(List.getElem?_eq_some_iff.1 hv).1;rwa [dB] at this
    rw[j.rest (0+i) (.inl (by omega))];have h5:=l i v (by rw[gA (by simpa using hi)];exact hv);exact h5
   have ad:Below w.1.size w D:=j.belowOf (r.drew) aE;have ai:=j.soft B;have ag:w.1.size<D.1.size:=aZ N j.grown.size;clear y j K T B;go_wp2;have aj:IntKind.i64.wrap ((k:Int)+(a:Int))=((k+a:Nat):Int):=by
    have:((k+a:Nat):Int)<9223372036854775808:=by omega
    simp[IntKind.wrap,IntKind.bits,IntKind.signed];omega
   simp[Act.put,aj];go_roundw
   case rel=>exact⟨k+a,fun h=>by omega,by omega,by simp,af,ai,ad,ag⟩
   case measure=>simp[intOf];omega
  ·obtain rfl:k=n:=by omega
   have ae:VC wr w.1.size 0 (List.replicate k (Value.string s)):=by simpa using l
   clear l;go_wp2;go_ret;exact⟨_,rfl,aE,N,ae,R,r⟩
def Only.wide{off d:Nat}{a b:World}(h:Only g off n a b)(e:c<=off)(f:off+n<=c+d):Only g c d a b:=⟨h.grown,fun j k=>h.rest j (by omega),h.soft,h.shape⟩
def Only.keepi{off:Nat}(h:Only g off n w w')(q:∀j<n,∃x,w.cell? ⟨g,off+j,none⟩=some (.int .i64 x)):Keep w w':=fun u m v=>by
 obtain⟨A,c',hv,r,f,t⟩:=v;refine⟨A,c',hv,r,?_,t.mono h.grown.size⟩;rcases f with f|⟨b,o,rfl,l,s⟩
 ·exact .inl f
 ·refine .inr ⟨b,o,rfl,aZ l h.grown.size,fun i hi=> ?_⟩;have d:=s i hi;by_cases k:b=g
  ·subst k;by_cases y:off<=o+i∧o+i<off+n
   ·obtain⟨x,c⟩:=q (o+i-off) (by omega);rw[show off+(o+i-off)=o+i by omega,d] at c;injection c with c;injection c with c;cases c
   ·exact(h.rest (o+i) (by omega)).trans d
  ·exact(World.cell?_of_block (a:=⟨b,_,none⟩) (h.grown.block b l (fun e=>k (Option.some.inj e)))).trans d
def P7(vars i m:Nat)(a:Nat->List UInt8):List Te:=(List.range m).map fun k=>(a k,bG vars i k)
def fyB(vars i m:Nat)(a:Nat->List UInt8):(P7 vars i m a).length=m:=by unfold P7;rw[cH,bxZ]
def fqY{a:Nat->List UInt8}(h:k<m):(P7 vars i m a)[k]? =some (a k,bG vars i k):=by
 unfold P7;rw[iK,byN h];rfl
abbrev zE:List Value:=[.int .i64 0,.int .i64 0,.int .i64 0,.int .i64 0,.int .i64 0,.int .i64 0,.bool false,.slice none 0 0,.bool false,.slice none 0 0]
structure MkJ(w:World)(g j m i:Nat)(rc:Nat->List Value)(p:Nat->Rat):Prop where
 lt:g<w.1.size
 soft:Soft w g
 done:∀k<j,∀c u,(lQ i rc k)[c]? =some u->w.cell? ⟨g,k*10+c,none⟩=some u
 rest:∀k,j<=k->k<m->∀c u,zE[c]? =some u->w.cell? ⟨g,k*10+c,none⟩=some u
 rat:∀k<j,(rc k).length=4∧RatAt w (.agg (rc k).toArray) (p k)
section
variable {w w':World}{g j m i:Nat}{rc:Nat->List Value}{p:Nat->Rat}
def MkJ.be(h:MkJ w g j m i rc p)(a:Below w.1.size w w'):MkJ w' g j m i rc p:=
 ⟨aZ h.lt a.size,by
  obtain⟨e,t,n⟩:=h.soft;exact⟨e,t,(a.block g h.lt).trans n⟩,fun k b c u d=>(a.cell (p:=⟨g,_,none⟩) h.lt).trans (h.done k b c u d),fun k f l c u d=>(a.cell (p:=⟨g,_,none⟩) h.lt).trans (h.rest k f l c u d),fun k b=>⟨(h.rat k b).1,(h.rat k b).2.be a⟩⟩
def MkJ.next(h:MkJ w g j m i rc p)(b:Only g (j*10) 10 w w')(q:Keep w w')(t:r.length=4)(v:RatAt w' (.agg r.toArray) (p j))
  (n:∀c u,((bG 6 i j).map (Value.int .i64)++r)[c]? =some u->w'.cell? ⟨g,j*10+c,none⟩=some u):MkJ w' g (j+1) m i (fun k=>if k=j then r else rc k) p:=by
 have o:∀k c u,((bG 6 i k).map (Value.int .i64)++(if k=j then r else rc k))[c]? =some u->(if k=j then r else rc k).length=4->c<10:=fun k c u a d=>by
  have:=(List.getElem?_eq_some_iff.1 a).1;rw[bN,cH,kE,d] at this;omega
 refine⟨aZ h.lt b.grown.size,b.soft h.soft,fun k s c u a=> ?_,fun k x f c u a=> ?_,fun k s=> ?_⟩
 ·by_cases e:k=j
  ·subst e;refine n c u ?_;unfold lQ at a;dsimp only at a;rwa [if_pos rfl] at a
  ·have d:=(h.rat k (by omega)).1;have l:=o k c u a (by rw[if_neg e];exact d);unfold lQ at a;dsimp only at a;rw[if_neg e] at a;rw[b.rest _ (by omega)];exact h.done k (by omega) c u a
 ·have l:c<10:=(List.getElem?_eq_some_iff.1 a).1;rw[b.rest _ (by omega)];exact h.rest k (by omega) f c u a
 ·by_cases e:k=j
  ·subst e;rw[if_pos rfl];exact⟨t,v⟩
  ·rw[if_neg e];exact⟨(h.rat k (by omega)).1,(h.rat k (by omega)).2.ke q⟩
def MkJ.ents(h:MkJ w g m m i rc p):EntsAt w i g 0 m rc p:=⟨h.lt,fun k a c u b=>by rw[bA];exact h.done k a c u b,h.rat⟩
def MkJ.far(h:MkJ w g j m i rc p)(e:b≠g)(o:Nat)(v:Value)(n:Keep w (w.setCell ⟨b,o,none⟩ v)):MkJ (w.setCell ⟨b,o,none⟩ v) g j m i rc p:=
 ⟨by simpa using h.lt,h.soft.set _ _,fun k a c u d=>(aL _ _ _ _ _ _ e).trans (h.done k a c u d),fun k f l c u d=>(aL _ _ _ _ _ _ e).trans (h.rest k f l c u d),fun k a=>⟨(h.rat k a).1,(h.rat k a).2.ke n⟩⟩
end
def fqZ{t:Nat}(h:VC w g 0 (madeCells (Value.agg #[.int .i64 0,.int .i64 0,.int .i64 0,.int .i64 0,.int .i64 0,.int .i64 0,.bool false,.slice none 0 0,.bool false,.slice none 0 0]).cells (n*10)).toList)(o:t<n):∀c u,zE[c]? =some u->w.cell? ⟨g,t*10+c,none⟩=some u:=fun c u a=>by
 have d:c<10:=(List.getElem?_eq_some_iff.1 a).1;have e:(Value.agg #[.int .i64 0,.int .i64 0,.int .i64 0,.int .i64 0,.int .i64 0,.int .i64 0,.bool false,.slice none 0 0,.bool false,.slice none 0 0]).cells=zE.toArray:=rfl;have f:=fy0 zE.toArray n (by decide);rw[e] at h;replace h:VC w g 0 (madeCells zE.toArray (n*zE.toArray.size)).toList:=h;rw[f] at h
 have b:=h (t*10+c) u (by
  rw[mW (k:=10) (r:=zE) (fun r l=>by rw[byK l];rfl) (by rw[j6,if_pos o]) d];exact a)
 rwa [bA] at b
def gx0{v:Nat}(hi:i<v)(a:v<=6):cV (List.replicate 6 (Value.int .i64 0)) ((bG v i k).map (Value.int .i64))=(bG 6 i k).map (Value.int .i64):=by
 have e:List.replicate 6 (Value.int .i64 0)=(List.replicate 6 (0:Int)).map (Value.int .i64):=rfl;rw[e,OU];congr 1;unfold cV;rw[dB,cZ (by rw[kE];exact a),kE,bxL];unfold bG;rw[<-List.set_append_left _ _ (by rw[dB];exact hi),bz9,show v+(6-v)=6 by omega]
def gx1{v:Nat}(hi:i<v)(b:v<=6)(c:k<=24):0<=gX (bG v i k):=by
 have d:=dz1 (v:=v) k hi;unfold gX;rw[kE,if_neg (by omega),eq2 (fun x a=>by rcases I6 a with h|h<;>omega) (by omega)];omega
def gx2(i m vars:Nat)(aj:i<vars)(h6:vars<=6)(hm:m<=25)(tx:Nat->List UInt8)(p:Nat->Rat)(v:Value)(w:World)(hG:Glob w)(hv:TesAt w v (P7 vars i m tx))(hp:∀k<m,cG (tx k)=some (p k)∧(tx k).length<=1073741824∧RL 1 (p k)):
  Calls prog 25 #[.int .i64 vars,v] w fun e w'=>∃u,e= .returned (.tuple #[.agg #[.int .i64 vars,u],.int .i64 0])∧TesN w.1.size w' u (ez6 vars i m p)∧Below w.1.size w w':=by
 obtain⟨A,c,rfl,bo⟩:=hv.form;rw[fyB] at *;have HP:=aB hp;have g1:¬((vars:Int)<0):=by omega
 have g2:¬(6<(vars:Int)):=by omega
 have g3:decide ((vars:Int)<0)=false:=decide_eq_false g1;have g4:decide (6<(vars:Int))=false:=decide_eq_false g2;clear hp;obtain⟨W,eW,f,R⟩:=bI w [.int .i64 0,.slice none 0 0] 24;have cR:=R.g2;have lR:=R.lt;go_enter func25,ntmps25;go_wp2_with (at_make;(try rw[eW]);refine OS rfl rfl 109 _ 10 112 underlying92 ezC m rfl rfl (by first|rfl|omega) (by first|rfl|omega) (by omega) (by omega) ?_;intro w1 bc a4 au ag);clear eW cR;have ao:MkJ w1 W.1.size 0 m i (fun _=>[]) p:=⟨bc,a4,fun k H=>absurd H (Nat.not_lt_zero _),fun k _ H=>fqZ au H,fun k H=>absurd H (Nat.not_lt_zero _)⟩;have R1:=R.be ag;have aq:=aC f ag;clear bc a4 au ag f R g3 g4;go_loopg [23] m (fun k vi wr=>∃(j:Nat) (rc:Nat->List Value),Hid (j+k=m)∧vi= .int .i64 j∧MkJ wr W.1.size j m i rc p∧Bx wr w.1.size [.int .i64 0,.slice none 0 0] 24∧Below w.1.size w wr)
 case atStart=>exact⟨0,_,by unfold Hid;omega,rfl,ao,R1,aq⟩
 case round=>
  clear ao R1 aq;obtain⟨j,rc,HJ,rfl,n,R,f⟩:=hrel;generalize wr=wy at *;cases gk with
  |zero=>
   have hj:j=m:=HJ.out;subst hj;obtain⟨w2,V,D,O⟩:=bI wy [.slice (some ⟨W.1.size,0,none⟩) j j] 92;have hE:=n.ents.be D;have a3:∀k<j,RL 1 (p k):=fun k H=>(HP.out k H).2.2;have aw:=fun tt h=>gxM i j j (by omega) (by omega) aE rc p W.1.size 0 wy.1.size w2 tt h hE a3;replace R:=R.be D;replace f:=aC f D;clear n hv;go_wp2_with fail;(try rw[V]);clear V;refine(aw _ O).mono ?_;rintro e3 w3 ⟨v3,ks,bm,wz,rfl,a1,ak,a0,a2,ar,Y⟩;obtain⟨g,ab,rfl⟩:∃g ab,v3= .slice (some ⟨g,0,none⟩) ks.length ab:=by
    rcases ak.2 with ⟨rfl, -⟩|⟨g,ab,bn,rfl, -⟩
    ·exact absurd rfl a0
    ·exact⟨g,ab,rfl⟩
   have ah:=aC f Y;have hw:=gx6 i j vars aj h6 hm p bm ks wz w3 g ab (hG.be ah) ar a1 ak a2 a3;have Rz:=R.be Y;have am:w.1.size<w3.1.size:=(Rz.be ar).lt;clear R;clear aw ak a2 a1 a0 hE O;go_wp2_with fail;refine hw.mono ?_;rintro e4 w4 ⟨u,rfl,hT,Z⟩;obtain⟨A4,c4,rfl, -⟩:=hT.form;have bg:Below w.1.size w w4:=aC ah Z;have R4:=Rz.be Z;generalize (ez6 vars i j p).length=N at *;have ap:=(hT.far am 0 (.int .i64 vars)).far am 1 (.slice A4 N c4);have R6:=(R4.set 0 (.int .i64 vars)).set 1 (.slice A4 N c4);have ad:=(bg.setCell (p:=⟨w.1.size,0,none⟩) aE (.int .i64 vars)).setCell (p:=⟨w.1.size,1,none⟩) aE (.slice A4 N c4);have HX:=aB (And.intro ap (And.intro R6 ad));have cR:=R4.g2;clear ap R6 ad hT hw;go_wp2_with fail;exact aM (v:= .tuple #[.agg #[.int .i64 vars,.slice A4 N c4],.int .i64 0]) (by simp[results,results25,go_sem,HX.out.2.1.cell 0 rfl,HX.out.2.1.cell 1 rfl]) rfl ⟨_,rfl,HX.out.1.lower (iE am),HX.out.2.2⟩
  |succ k=>
   have G:j<m:=by have:=HJ.out;omega
   have q1:(j:Int)<(m:Int):=by omega
   have q2:(0:Int)<=(j:Int):=by omega
   obtain⟨ae,a7,bj⟩:=HP.out j G;obtain⟨b,bq,u,rfl,an,c1,c2,a⟩:=hv.at_ (fqY G);obtain⟨Au,cu,rfl,ax⟩:=a.form;dsimp only at c1 c2 a ax;simp only[kE] at c2 a ax;have a8:=a;replace c1:=(f.cell (p:=⟨b,_,none⟩) an).trans c1;replace c2:=(f.cell (p:=⟨b,_,none⟩) an).trans c2;replace a:=a.be f;have lb:=aZ an f.size;have lM:=n.lt;have af:=fun W h=>wU (tx j) W h a7;rw[ae] at af;unfold IP at af;have al:=fun W h=>eqO (bG vars i j) (.slice Au vars cu) W h (fun x hx=>by rcases I6 hx with h|h<;>omega);have az:decide (0<=gX (bG vars i j))=true:=decide_eq_true (gx1 aj h6 (by omega));simp only[az] at al;clear az ae a7 bj;go_upto_region 7 with fail;obtain⟨w2,V,D,P⟩:=bI wy [.string ⟨(tx j).toArray⟩,.slice Au vars cu] 40;(try rw[V]);clear V;replace R:=R.be D;replace n:=n.be D;replace a:=a.be D;replace f:=aC f D;have cM:=P.g2;go_wp2_with fail;refine(af _ (hG.be f)).mono ?_;rintro e3 w3 ⟨v3,rfl,C,Y⟩;obtain⟨s1,J,k1,T,s2,K,k2,U,rfl⟩:=C.form;replace C:RatAt w3 (.agg #[.bool s1,.slice J k1 T,.bool s2,.slice K k2 U]) (p j):=C;(try simp only[Option.isSome_some]);obtain⟨w4,e4,Z,Q⟩:=bI w3 [.bool s1,.slice J k1 T,.bool s2,.slice K k2 U] 86;have X:=aC Y Z;replace R:=R.be X;replace n:=n.be X;replace a:=a.be X;replace P:=P.be X;replace C:=C.be Z;replace f:=aC f X;have cM:=aa P.g2 Q.g4;clear Y Z X af D;go_upto_region 8 with fail;(try rw[e4]);clear e4;go_wp2_with fail;refine(al _ a).mono ?_;rintro B w5 ⟨rfl,rfl⟩;have bh:=n.soft.free;have z6:=n.rest j aE G 6 _ rfl;have z7:=n.rest j aE G 7 _ rfl;have z8:=n.rest j aE G 8 _ rfl;have z9:=n.rest j aE G 9 _ rfl;clear al;go_upto_region 11 with fail;obtain⟨l,B⟩:∃l,(((w4.setCell ⟨W.1.size,j*10+6,none⟩ (.bool s1)).setCell ⟨W.1.size,j*10+7,none⟩ (.slice J k1 T)).setCell ⟨W.1.size,j*10+8,none⟩ (.bool s2)).setCell ⟨W.1.size,j*10+9,none⟩ (.slice K k2 U)=l:=⟨_,rfl⟩;rw[B];have z:Only W.1.size (j*10+6) 4 w4 l:=by
    rw[<-B];exact((((Only.refl _ _ _ _).set (i:=0) (by omega) _).set (i:=1) (by omega) _).set (i:=2) (by omega) _).set (i:=3) (by omega) _
   have t:∀(w:World) (x y:Nat) (u:Value),x≠y->(w.setCell ⟨W.1.size,j*10+x,none⟩ u).cell? ⟨W.1.size,j*10+y,none⟩=w.cell? ⟨W.1.size,j*10+y,none⟩:=fun w x y u bp=>World.cell?_setCell_other _ _ _ _ (by simp);have M:Keep w4 l:=by
    rw[<-B];exact(((Keep.put z6 (NoInt.bool _) _).trans (Keep.put ((t _ 6 7 _ (by decide)).trans z7) (NoInt.slice _ _ _) _)).trans (Keep.put ((t _ 7 8 _ (by decide)).trans ((t _ 6 8 _ (by decide)).trans z8)) (NoInt.bool _) _)).trans (Keep.put ((t _ 8 9 _ (by decide)).trans ((t _ 7 9 _ (by decide)).trans ((t _ 6 9 _ (by decide)).trans z9))) (NoInt.slice _ _ _) _)
   have v6:l.cell? ⟨W.1.size,j*10+6,none⟩=some (.bool s1):=by
    rw[<-B,t _ 9 6 _ (by decide),t _ 8 6 _ (by decide),t _ 7 6 _ (by decide)];exact World.cell?_setCell_same _ _ _ z6
   have v7:l.cell? ⟨W.1.size,j*10+7,none⟩=some (.slice J k1 T):=by
    rw[<-B,t _ 9 7 _ (by decide),t _ 8 7 _ (by decide)];exact World.cell?_setCell_same _ _ _ ((t _ 6 7 _ (by decide)).trans z7)
   have v8:l.cell? ⟨W.1.size,j*10+8,none⟩=some (.bool s2):=by
    rw[<-B,t _ 9 8 _ (by decide)];exact World.cell?_setCell_same _ _ _ ((t _ 7 8 _ (by decide)).trans ((t _ 6 8 _ (by decide)).trans z8))
   have v9:l.cell? ⟨W.1.size,j*10+9,none⟩=some (.slice K k2 U):=by
    rw[<-B];exact World.cell?_setCell_same _ _ _ ((t _ 8 9 _ (by decide)).trans ((t _ 7 9 _ (by decide)).trans ((t _ 6 9 _ (by decide)).trans z9)))
   have hz:∀q<6,l.cell? ⟨W.1.size,j*10+q,none⟩=some (.int .i64 0):=fun q I=>by
    rw[z.rest _ (by omega)];refine n.rest j aE G q _ ?_;match q,I with
    |0,_=>rfl
    |1,_=>rfl
    |2,_=>rfl
    |3,_=>rfl
    |4,_=>rfl
    |5,_=>rfl
   have bb:w.1.size<=W.1.size:=iE lR;have F:Below w.1.size w l:=f.trans (z.be f.size bb);have nP:W.1.size≠wy.1.size:=bxQ lM;have nR:W.1.size≠w.1.size:=Nat.ne_of_gt lR;have P5:Bx l wy.1.size _ _:=(z.grown.block _ P.lt (fun e=>nP (Option.some.inj e).symm)).trans P;have S:Bx l w.1.size _ _:=(z.grown.block _ R.lt (fun e=>nR (Option.some.inj e).symm)).trans R;have ac:=C.ke M;have a5:Soft l.drew W.1.size:=z.soft n.soft;have a9:=a8.be F.drew;have ay:VC l.drew W.1.size (j*10) (List.replicate 6 (Value.int .i64 0)):=fun q v hv=>by
    have I:=(List.getElem?_eq_some_iff.1 hv).1;rw[dB] at I;rw[j6,if_pos I] at hv;rw[<-hv];exact hz q I
   have a6:0<vars->∃b o',Au=some ⟨b,o',none⟩∧VC l.drew b o' ((bG vars i j).map (Value.int .i64)):=fun h0=>by
    obtain⟨A',c',bk, -,ae⟩:=a9;injection bk with e1 V e3;subst e1;obtain⟨b,o,h1,h2,C⟩:=ae.at_ (by rw[kE];exact h0);exact⟨b,o,h1,C.vc⟩
   have ba:((bG vars i j).map (Value.int .i64)).length=vars:=by rw[cH,kE]
   have L:=aB (And.intro ay (And.intro a6 (And.intro ba (And.intro a5 (ints_oneCell .i64 (bG vars i j))))));have HM:=aB (And.intro n (And.intro z (And.intro M (And.intro v6 (And.intro v7 (And.intro v8 (And.intro v9 (And.intro hz (And.intro ac (And.intro S F))))))))));have cP:=P5.k2;clear ay a6 ba a5 a9 ac S P5 z M v6 v7 v8 v9 hz F n t B z6 z7 z8 z9 bh cM P Q R C a f a8 c1 c2;go_region_law (refine fyQ rfl (d:= .tmp 59) (s:= .tmp 61) (dT:=38) (sT:=38) rfl 3 underlying38 eqM (dp:=some ⟨W.1.size,j*10,none⟩) (dLen:=6) (dCap:=6) (sp:=Au) (sLen:=vars) (sCap:=cu) (by go_simp) (by go_simp) W.1.size (j*10) (List.replicate 6 (Value.int .i64 0)) ((bG vars i j).map (Value.int .i64)) rfl L.out.2.2.1 (fun _=>rfl) L.out.1 L.out.2.2.2.1 L.out.2.1 L.out.2.2.2.2 ?_;intro w6 ai E);rw[gx0 aj h6] at ai;replace E:Only W.1.size (j*10) 6 l.drew w6:=E;obtain⟨n,z,M,v6,v7,v8,v9,hz,ac,S,F⟩:=HM.out;have O6:Only W.1.size (j*10) 10 w4 w6:=((z.wide (by omega) (by omega)).drew).trans (E.wide (by omega) (by omega));have K6:Keep l w6:=(Keep.be (aG l.1.size l).drew).trans (E.keepi fun q I=>⟨0,hz q I⟩);have R6:Bx w6 w.1.size _ _:=(E.grown.block w.1.size S.lt (fun e=>nR (Option.some.inj e).symm)).trans S;have ad:Below w.1.size w w6:=F.drew.trans (E.be F.size bb);have av:∀q u,((bG 6 i j).map (Value.int .i64)++[.bool s1,.slice J k1 T,.bool s2,.slice K k2 U])[q]? =some u->w6.cell? ⟨W.1.size,j*10+q,none⟩=some u:=fun q u a=>by
    have bi:((bG 6 i j).map (Value.int .i64)).length=6:=by rw[cH,kE]
    rcases dE q 6 with h|h
    ·rw[gA (by omega)] at a;exact ai q u a
    ·rw[fK (by omega),bi] at a;rw[E.rest _ (by omega)];obtain⟨q',rfl⟩:∃q',q=6+q':=⟨q-6,by omega⟩;rw[bzC] at a;match q',a with
     |0,a=>exact v6.trans a
     |1,a=>exact v7.trans a
     |2,a=>exact v8.trans a
     |3,a=>exact v9.trans a
     |q''+4,a=>simp at a
   have bf:=n.next O6 (M.trans K6) (r:=[.bool s1,.slice J k1 T,.bool s2,.slice K k2 U]) rfl (ac.ke K6) av;clear n z M v6 v7 v8 v9 hz ac S F O6 K6 av ai E L HM cP cM;go_wp2;go_roundg k
   case rel=>exact⟨j+1,_,by have:=HJ.out;unfold Hid;omega,by go_num,bf,R6,ad⟩
   case measure=>omega
