import Derived.Test.YtjpmdkgonlmddaaGreatDoorCertE
set_option linter.unusedVariables false
set_option maxRecDepth 200000
set_option maxHeartbeats 4000000
namespace Go.T
open Go Go.Ab Go.Proofs
variable {ml:Gv} {F:Nat}
theorem Zew {a c cq2 gs cq4 tb l lq7 lq8 lq9 lq10 m r} (h:Zcn F a c cq2 gs cq4 tb l lq7 lq8 lq9 lq10 m=some r):FZ ml 58 [(0,rF [sM (cInt IntKind.i64) c,.mapo 1,pp 2,pp 3,.osw 4 2,.osw 5 1,.osw 6 1,.osw 7 2,.bool cq2]),(1,AO.gmap (@encG Int group_node (fun (k_14:Int)=>(AV.int IntKind.i64 k_14)) group_node.g gs) none),(2,rF [.osw 8 4,aI cq4,.mapo 9]),(3,.rows true [(@crowB tb)]),(4,rT Zaa.c l),(5,rT (cInt IntKind.i64) lq7),(6,rT (cInt IntKind.u32) lq8),(7,rT Zah.c lq9),(8,rT Zag.c lq10),(9,AO.mapo true (encM (fun (k_14:Zae)=>(AV.agg (Zae.c k_14))) (fun (k_14:Int)=>(AV.int IntKind.i64 k_14)) m))] [pp 0,.agg (Zcl.c a)] (aI r.1) [(0,rF [sM (cInt IntKind.i64) r.2.1,.mapo 1,pp 2,pp 3,.osw 10 2,.osw 11 1,.osw 12 1,.osw 13 2,.bool r.2.2.1]),(1,AO.gmap (@encG Int group_node (fun (k_14:Int)=>(AV.int IntKind.i64 k_14)) group_node.g r.2.2.2.1) none),(2,rF [.osw 14 4,aI r.2.2.2.2.1,.mapo 9]),(3,.rows true [(@crowB r.2.2.2.2.2.1)]),(9,AO.mapo true (encM (fun (k_14:Zae)=>(AV.agg (Zae.c k_14))) (fun (k_14:Int)=>(AV.int IntKind.i64 k_14)) m)),(10,rT Zaa.c r.2.2.2.2.2.2.1),(11,rT (cInt IntKind.i64) r.2.2.2.2.2.2.2.1),(12,rT (cInt IntKind.u32) r.2.2.2.2.2.2.2.2.1),(13,rT Zah.c r.2.2.2.2.2.2.2.2.2.1),(14,rT Zag.c r.2.2.2.2.2.2.2.2.2.2)]:=by
 refine fG Tryz.func58 ?_
 unfold Zcn at h
 (conv=>whnf);left;obtain ⟨y_0,hy,h⟩:=ZaL h;rcases y_0 with y_0 | y_0
 ·replace h:=Zfj h;(conv=>whnf);refine cg [0,1,2,3,4,5,6,7,8,9] (ZcJ hy) ?_;exact qG [(0,0),(1,1),(2,2),(3,3),(9,9),(10,4),(11,5),(12,6),(13,7),(14,8)]
 replace h:=Zfi h;(conv=>whnf);refine cg [0,1,2,3,4,5,6,7,8,9] (ZcI hy) ?_;(conv=>whnf);left;refine bS h (fun h=>?_) fun h=>?_
 ·(conv=>whnf);obtain ⟨hg,h⟩:=isS_e h;cases h;refine Zfh (Zen (o:=1) (qo:=202) (ek:=(fun (k_14:Int)=>(AV.int IntKind.i64 k_14))) (gN:=group_node.g) y_0.2.1 y_0.2.2.1 (@Sum.inr group_nodeD group_nodeU (group_nodeU.mk y_0.2.2.2.2.2.2.2.2.2.2.2.2.2.2.2.2.2.2.2.2.2.2.2.2.2.2.2.2.2.2.2.2.2.2.2.2.2.2.1 y_0.2.2.2.2.2.2.2.2.2.2.2.2.2.2.2.2.2.2.2.2.2.2.2.2.2.2.2.2.2.2.2.2.2.2.2.2.2.2.2.1 y_0.2.2.2.2.2.2.2.2.2.2.2.2.2.2.2.2.2.2.2.2.2.1 y_0.2.2.2.2.2.2.2.2.2.2.2.2.2.2.2.2.2.2.2.2.2.2.2.2.2.2.2.2.2.2.2.2.2.2.2.2.2.2.2.2.1 y_0.2.2.2.2.2.2.2.2.2.2.2.2.2.2.2.2.2.2.2.2.2.2.2.2.2.2.2.2.2.2.2.2.2.2.2.2.2.2.2.2.2.1 y_0.2.2.2.2.2.2.2.2.2.2.2.2.2.2.2.2.2.2.2.2.2.2.2.2.2.2.2.2.2.2.2.2.2.2.2.2.2.2.2.2.2.2 (Zaf.mk y_0.2.2.2.2.2.2.2.2.2.2.2.2.2.2.2.2.2.2.2.2.2.2.1 y_0.2.2.2.2.2.2.2.2.2.2.2.2.2.2.2.2.2.2.2.2.2.2.2.1 y_0.2.2.2.2.2.2.2.2.2.2.2.2.2.2.2.2.2.2.2.2.2.2.2.2.1 y_0.2.2.2.2.2.2.2.2.2.2.2.2.2.2.2.2.2.2.2.2.2.2.2.2.2.1 y_0.2.2.2.2.2.2.2.2.2.2.2.2.2.2.2.2.2.2.2.2.2.2.2.2.2.2.1 y_0.2.2.2.2.2.2.2.2.2.2.2.2.2.2.2.2.2.2.2.2.2.2.2.2.2.2.2.1 (Zai.mk y_0.2.2.2.2.2.2.2.2.2.2.2.2.2.2.2.2.2.2.2.2.2.2.2.2.2.2.2.2.1 y_0.2.2.2.2.2.2.2.2.2.2.2.2.2.2.2.2.2.2.2.2.2.2.2.2.2.2.2.2.2.1 y_0.2.2.2.2.2.2.2.2.2.2.2.2.2.2.2.2.2.2.2.2.2.2.2.2.2.2.2.2.2.2.1) y_0.2.2.2.2.2.2.2.2.2.2.2.2.2.2.2.2.2.2.2.2.2.2.2.2.2.2.2.2.2.2.2.1 y_0.2.2.2.2.2.2.2.2.2.2.2.2.2.2.2.2.2.2.2.2.2.2.2.2.2.2.2.2.2.2.2.2.1 y_0.2.2.2.2.2.2.2.2.2.2.2.2.2.2.2.2.2.2.2.2.2.2.2.2.2.2.2.2.2.2.2.2.2.1 y_0.2.2.2.2.2.2.2.2.2.2.2.2.2.2.2.2.2.2.2.2.2.2.2.2.2.2.2.2.2.2.2.2.2.2.1 y_0.2.2.2.2.2.2.2.2.2.2.2.2.2.2.2.2.2.2.2.2.2.2.2.2.2.2.2.2.2.2.2.2.2.2.2.1 y_0.2.2.2.2.2.2.2.2.2.2.2.2.2.2.2.2.2.2.2.2.2.2.2.2.2.2.2.2.2.2.2.2.2.2.2.2.1 y_0.2.2.2.2.2.2.2.2.2.2.2.2.2.2.2.2.2.2.2.2.2.2.2.2.2.2.2.2.2.2.2.2.2.2.2.2.2.1) (Zaf.mk y_0.2.2.2.1 y_0.2.2.2.2.1 y_0.2.2.2.2.2.1 y_0.2.2.2.2.2.2.1 y_0.2.2.2.2.2.2.2.1 y_0.2.2.2.2.2.2.2.2.1 (Zai.mk y_0.2.2.2.2.2.2.2.2.2.1 y_0.2.2.2.2.2.2.2.2.2.2.1 y_0.2.2.2.2.2.2.2.2.2.2.2.1) y_0.2.2.2.2.2.2.2.2.2.2.2.2.1 y_0.2.2.2.2.2.2.2.2.2.2.2.2.2.1 y_0.2.2.2.2.2.2.2.2.2.2.2.2.2.2.1 y_0.2.2.2.2.2.2.2.2.2.2.2.2.2.2.2.1 y_0.2.2.2.2.2.2.2.2.2.2.2.2.2.2.2.2.1 y_0.2.2.2.2.2.2.2.2.2.2.2.2.2.2.2.2.2.1 y_0.2.2.2.2.2.2.2.2.2.2.2.2.2.2.2.2.2.2.1) y_0.2.2.2.2.2.2.2.2.2.2.2.2.2.2.2.2.2.2.2.1 y_0.2.2.2.2.2.2.2.2.2.2.2.2.2.2.2.2.2.2.2.2.1)) [202,203,205,206,204,207] _ rfl (by assumption) rfl rfl (lkE_c _ rfl (WkO.eq rfl) (lkE_c _ rfl (WkO.eq rfl) (lkE_c _ rfl (WkO.eq rfl) (lkE_c _ rfl (WkO.eq rfl) (lkE_c _ rfl (WkO.eq rfl) (lkE_c _ rfl (WkO.eq rfl) lkE_n)))))) rfl (.refl _)) ?_;exact gI [(0,0),(1,1),(2,2),(3,3),(9,9),(10,4),(11,5),(12,6),(13,7),(14,8)]
 (conv=>whnf);left;(conv=>whnf);refine cR h (fun h=>Zav (Zg1 h) rfl) fun y_1 h=>?_;(conv=>whnf);left;(conv=>whnf);refine aX ?_;(conv=>whnf);left;refine bS h (fun h=>?_) fun h=>?_
 ·(conv=>whnf);obtain ⟨hg,h⟩:=isS_e h;cases h;refine Zfh (Zen (o:=1) (qo:=202) (ek:=(fun (k_14:Int)=>(AV.int IntKind.i64 k_14))) (gN:=group_node.g) y_0.2.1 y_0.2.2.1 (@Sum.inr group_nodeD group_nodeU (group_nodeU.mk y_0.2.2.2.2.2.2.2.2.2.2.2.2.2.2.2.2.2.2.2.2.2.2.2.2.2.2.2.2.2.2.2.2.2.2.2.2.2.2.1 y_0.2.2.2.2.2.2.2.2.2.2.2.2.2.2.2.2.2.2.2.2.2.2.2.2.2.2.2.2.2.2.2.2.2.2.2.2.2.2.2.1 y_0.2.2.2.2.2.2.2.2.2.2.2.2.2.2.2.2.2.2.2.2.2.1 y_0.2.2.2.2.2.2.2.2.2.2.2.2.2.2.2.2.2.2.2.2.2.2.2.2.2.2.2.2.2.2.2.2.2.2.2.2.2.2.2.2.1 y_0.2.2.2.2.2.2.2.2.2.2.2.2.2.2.2.2.2.2.2.2.2.2.2.2.2.2.2.2.2.2.2.2.2.2.2.2.2.2.2.2.2.1 y_0.2.2.2.2.2.2.2.2.2.2.2.2.2.2.2.2.2.2.2.2.2.2.2.2.2.2.2.2.2.2.2.2.2.2.2.2.2.2.2.2.2.2 (Zaf.mk y_0.2.2.2.2.2.2.2.2.2.2.2.2.2.2.2.2.2.2.2.2.2.2.1 y_0.2.2.2.2.2.2.2.2.2.2.2.2.2.2.2.2.2.2.2.2.2.2.2.1 y_0.2.2.2.2.2.2.2.2.2.2.2.2.2.2.2.2.2.2.2.2.2.2.2.2.1 y_0.2.2.2.2.2.2.2.2.2.2.2.2.2.2.2.2.2.2.2.2.2.2.2.2.2.1 y_0.2.2.2.2.2.2.2.2.2.2.2.2.2.2.2.2.2.2.2.2.2.2.2.2.2.2.1 y_0.2.2.2.2.2.2.2.2.2.2.2.2.2.2.2.2.2.2.2.2.2.2.2.2.2.2.2.1 (Zai.mk y_0.2.2.2.2.2.2.2.2.2.2.2.2.2.2.2.2.2.2.2.2.2.2.2.2.2.2.2.2.1 y_0.2.2.2.2.2.2.2.2.2.2.2.2.2.2.2.2.2.2.2.2.2.2.2.2.2.2.2.2.2.1 y_0.2.2.2.2.2.2.2.2.2.2.2.2.2.2.2.2.2.2.2.2.2.2.2.2.2.2.2.2.2.2.1) y_0.2.2.2.2.2.2.2.2.2.2.2.2.2.2.2.2.2.2.2.2.2.2.2.2.2.2.2.2.2.2.2.1 y_0.2.2.2.2.2.2.2.2.2.2.2.2.2.2.2.2.2.2.2.2.2.2.2.2.2.2.2.2.2.2.2.2.1 y_0.2.2.2.2.2.2.2.2.2.2.2.2.2.2.2.2.2.2.2.2.2.2.2.2.2.2.2.2.2.2.2.2.2.1 y_0.2.2.2.2.2.2.2.2.2.2.2.2.2.2.2.2.2.2.2.2.2.2.2.2.2.2.2.2.2.2.2.2.2.2.1 y_0.2.2.2.2.2.2.2.2.2.2.2.2.2.2.2.2.2.2.2.2.2.2.2.2.2.2.2.2.2.2.2.2.2.2.2.1 y_0.2.2.2.2.2.2.2.2.2.2.2.2.2.2.2.2.2.2.2.2.2.2.2.2.2.2.2.2.2.2.2.2.2.2.2.2.1 y_0.2.2.2.2.2.2.2.2.2.2.2.2.2.2.2.2.2.2.2.2.2.2.2.2.2.2.2.2.2.2.2.2.2.2.2.2.2.1) (Zaf.mk y_0.2.2.2.1 y_0.2.2.2.2.1 y_0.2.2.2.2.2.1 y_0.2.2.2.2.2.2.1 y_0.2.2.2.2.2.2.2.1 y_0.2.2.2.2.2.2.2.2.1 (Zai.mk y_0.2.2.2.2.2.2.2.2.2.1 y_0.2.2.2.2.2.2.2.2.2.2.1 y_0.2.2.2.2.2.2.2.2.2.2.2.1) y_0.2.2.2.2.2.2.2.2.2.2.2.2.1 y_0.2.2.2.2.2.2.2.2.2.2.2.2.2.1 y_0.2.2.2.2.2.2.2.2.2.2.2.2.2.2.1 y_0.2.2.2.2.2.2.2.2.2.2.2.2.2.2.2.1 y_0.2.2.2.2.2.2.2.2.2.2.2.2.2.2.2.2.1 y_0.2.2.2.2.2.2.2.2.2.2.2.2.2.2.2.2.2.1 y_0.2.2.2.2.2.2.2.2.2.2.2.2.2.2.2.2.2.2.1) y_0.2.2.2.2.2.2.2.2.2.2.2.2.2.2.2.2.2.2.2.1 y_0.2.2.2.2.2.2.2.2.2.2.2.2.2.2.2.2.2.2.2.2.1)) [202,203,205,206,204,207] _ rfl (by assumption) rfl rfl (lkE_c _ rfl (WkO.eq rfl) (lkE_c _ rfl (WkO.eq rfl) (lkE_c _ rfl (WkO.eq rfl) (lkE_c _ rfl (WkO.eq rfl) (lkE_c _ rfl (WkO.eq rfl) (lkE_c _ rfl (WkO.eq rfl) lkE_n)))))) rfl (.refl _)) ?_;exact gI [(0,0),(1,1),(2,2),(3,3),(9,9),(10,4),(11,5),(12,6),(13,7),(14,8)]
 (conv=>whnf);exact cG [0,1,2,3,4,5,6,7,202,8,9,203,204,205,206,207] h Zdr fun y_2 h=>qG [(0,0),(1,1),(2,2),(3,3),(4,4),(5,5),(6,6),(7,7),(8,8),(9,9),(10,1264),(11,1265),(12,1266),(13,1267),(14,1268)]
theorem Za4 {a c cq2 gs cq4 tb l lq7 lq8 lq9 lq10 m r} (h:Za5 F a c cq2 gs cq4 tb l lq7 lq8 lq9 lq10 m=some r):FZ ml 18 [(0,rF [sM (cInt IntKind.i64) c,.mapo 1,pp 2,pp 3,.osw 4 2,.osw 5 1,.osw 6 1,.osw 7 2,.bool cq2]),(1,AO.gmap (@encG Int group_node (fun (k_14:Int)=>(AV.int IntKind.i64 k_14)) group_node.g gs) none),(2,rF [.osw 8 4,aI cq4,.mapo 9]),(3,.rows true [(@crowB tb)]),(4,rT Zaa.c l),(5,rT (cInt IntKind.i64) lq7),(6,rT (cInt IntKind.u32) lq8),(7,rT Zah.c lq9),(8,rT Zag.c lq10),(9,AO.mapo true (encM (fun (k_14:Zae)=>(AV.agg (Zae.c k_14))) (fun (k_14:Int)=>(AV.int IntKind.i64 k_14)) m))] [pp 0,.agg (Zcl.c a)] (aI r.1) [(0,rF [sM (cInt IntKind.i64) r.2.1,.mapo 1,pp 2,pp 3,.osw 10 2,.osw 11 1,.osw 12 1,.osw 13 2,.bool r.2.2.1]),(1,AO.gmap (@encG Int group_node (fun (k_14:Int)=>(AV.int IntKind.i64 k_14)) group_node.g r.2.2.2.1) none),(2,rF [.osw 14 4,aI r.2.2.2.2.1,.mapo 9]),(3,.rows true [(@crowB r.2.2.2.2.2.1)]),(9,AO.mapo true (encM (fun (k_14:Zae)=>(AV.agg (Zae.c k_14))) (fun (k_14:Int)=>(AV.int IntKind.i64 k_14)) m)),(10,rT Zaa.c r.2.2.2.2.2.2.1),(11,rT (cInt IntKind.i64) r.2.2.2.2.2.2.2.1),(12,rT (cInt IntKind.u32) r.2.2.2.2.2.2.2.2.1),(13,rT Zah.c r.2.2.2.2.2.2.2.2.2.1),(14,rT Zag.c r.2.2.2.2.2.2.2.2.2.2)]:=by
 refine fG Tryz.func18 ?_
 unfold Za5 at h
 (conv=>whnf);left;(conv=>whnf);left;(conv=>whnf);left;(conv=>whnf);refine cR h ZhU fun y_0 h=>?_;(conv=>whnf);refine aX ?_;(conv=>whnf);left;refine bS h (fun h=>?_) fun h=>?_
 ·(conv=>whnf);refine aX ?_;(conv=>whnf);left;(conv=>whnf);exact cG [0,1,2,3,4,5,6,7,8,9] h Zfd fun y_1 h=>qG [(0,0),(1,1),(2,2),(3,3),(4,4),(5,5),(6,6),(7,7),(8,8),(9,9),(10,618),(11,619),(12,620),(13,621),(14,622)]
 (conv=>whnf);refine bS h (fun h=>?_) fun h=>?_
 ·(conv=>whnf);refine aX ?_;(conv=>whnf);left;cases h
 (conv=>whnf);refine bS h (fun h=>?_) fun h=>?_
 ·(conv=>whnf);refine aX ?_;(conv=>whnf);left;cases h
 (conv=>whnf);refine bS h (fun h=>?_) fun h=>?_
 ·(conv=>whnf);refine aX ?_;(conv=>whnf);left;cases h
 (conv=>whnf);refine bS h (fun h=>?_) fun h=>?_
 ·(conv=>whnf);refine aX ?_;(conv=>whnf);left;(conv=>whnf);exact cG [0,1,2,3,4,5,6,7,8,9] h Zew fun y_2 h=>qG [(0,0),(1,1),(2,2),(3,3),(4,4),(5,5),(6,6),(7,7),(8,8),(9,9),(10,618),(11,619),(12,620),(13,621),(14,622)]
 (conv=>whnf);refine bS h (fun h=>?_) fun h=>?_
 ·(conv=>whnf);refine aX ?_;(conv=>whnf);left;cases h
 (conv=>whnf);refine bS h (fun h=>?_) fun h=>?_
 ·(conv=>whnf);refine aX ?_;(conv=>whnf);left;cases h
 (conv=>whnf);refine bS h (fun h=>?_) fun h=>?_
 ·(conv=>whnf);refine aX ?_;(conv=>whnf);left;cases h
 (conv=>whnf);refine bS h (fun h=>?_) fun h=>?_
 ·(conv=>whnf);refine aX ?_;(conv=>whnf);left;cases h
 (conv=>whnf);refine bS h (fun h=>?_) fun h=>?_
 ·(conv=>whnf);refine aX ?_;(conv=>whnf);left;cases h
 exact qG [(0,0),(1,1),(2,2),(3,3),(9,9),(10,4),(11,5),(12,6),(13,7),(14,8)]
theorem Zds {id c cq2 gs cq4 tb l lq7 lq8 lq9 lq10 m r} (h:Zce F id c cq2 gs cq4 tb l lq7 lq8 lq9 lq10 m=some r):FZ ml 19 [(0,rF [sM (cInt IntKind.i64) c,.mapo 1,pp 2,pp 3,.osw 4 2,.osw 5 1,.osw 6 1,.osw 7 2,.bool cq2]),(1,AO.gmap (@encG Int group_node (fun (k_14:Int)=>(AV.int IntKind.i64 k_14)) group_node.g gs) none),(2,rF [.osw 8 4,aI cq4,.mapo 9]),(3,.rows true [(@crowB tb)]),(4,rT Zaa.c l),(5,rT (cInt IntKind.i64) lq7),(6,rT (cInt IntKind.u32) lq8),(7,rT Zah.c lq9),(8,rT Zag.c lq10),(9,AO.mapo true (encM (fun (k_14:Zae)=>(AV.agg (Zae.c k_14))) (fun (k_14:Int)=>(AV.int IntKind.i64 k_14)) m))] [pp 0,aI id] (.tup [.agg (Zd8.c r.1),aI r.2.1]) [(0,rF [sM (cInt IntKind.i64) c,.mapo 1,pp 2,pp 3,.osw 4 2,.osw 5 1,.osw 6 1,.osw 7 2,.bool cq2]),(1,AO.gmap (@encG Int group_node (fun (k_14:Int)=>(AV.int IntKind.i64 k_14)) group_node.g r.2.2) none),(2,rF [.osw 8 4,aI cq4,.mapo 9]),(3,.rows true [(@crowB tb)]),(4,rT Zaa.c l),(5,rT (cInt IntKind.i64) lq7),(6,rT (cInt IntKind.u32) lq8),(7,rT Zah.c lq9),(8,rT Zag.c lq10),(9,AO.mapo true (encM (fun (k_14:Zae)=>(AV.agg (Zae.c k_14))) (fun (k_14:Int)=>(AV.int IntKind.i64 k_14)) m))]:=by
 refine fG Tryz.func19 ?_
 unfold Zce at h
 (conv=>whnf);left;(conv=>whnf);left;(conv=>whnf);refine aX ?_;(conv=>whnf);refine gl3 h (fun hm h=>?_) (fun d_6 hm h=>?_) (fun u_7 hm h=>?_)
 ·refine ZgH (ek:=(fun (k_14:Int)=>(AV.int IntKind.i64 k_14))) (gN:=group_node.g) gs id (.con (.pointer none)) rfl rfl (Zdi Tryz.underlying3) hm ⟨96,_,by kernel_rfl,by kernel_rfl,.refl _⟩ ?_;exact qG [(0,0),(1,1),(2,2),(3,3),(4,4),(5,5),(6,6),(7,7),(8,8),(9,9)]
 ·refine Zed (ek:=(fun (k_14:Int)=>(AV.int IntKind.i64 k_14))) (gN:=group_node.g) gs id _ rfl rfl (Zdi Tryz.underlying3) hm _ rfl rfl ?_;(conv=>whnf);left;(conv=>whnf);refine aX ?_;(conv=>whnf);obtain ⟨hg,h⟩:=isS_e h;refine ZgG (ek:=(fun (k_14:Int)=>(AV.int IntKind.i64 k_14))) (gN:=group_node.g) gs id id rfl rfl (Zdi Tryz.underlying3) hg ?_;(conv=>whnf);left;(conv=>whnf);left;(conv=>whnf);obtain ⟨hg,h⟩:=isS_e h;cases h;refine Zfh (Zen (o:=1) (qo:=352) (ek:=(fun (k_14:Int)=>(AV.int IntKind.i64 k_14))) (gN:=group_node.g) gs id (@Sum.inl group_nodeD group_nodeU d_6) [352,353,354,355] _ rfl (by assumption) rfl rfl (lkE_c _ rfl (WkO.eq (congrArg (fun X=>AO.rows false [X]) rQ)) (lkE_c _ rfl (WkO.eq rfl) (lkE_c _ rfl (WkO.eq rfl) (lkE_c _ rfl (WkO.eq rfl) lkE_n)))) rfl (.refl _)) ?_;exact gI [(0,0),(1,1),(2,2),(3,3),(4,4),(5,5),(6,6),(7,7),(8,8),(9,9)]
 refine Zed (ek:=(fun (k_14:Int)=>(AV.int IntKind.i64 k_14))) (gN:=group_node.g) gs id _ rfl rfl (Zdi Tryz.underlying3) hm _ rfl rfl ?_;(conv=>whnf);left;(conv=>whnf);refine aX ?_;(conv=>whnf);obtain ⟨hg,h⟩:=isS_e h;refine ZgG (ek:=(fun (k_14:Int)=>(AV.int IntKind.i64 k_14))) (gN:=group_node.g) gs id id rfl rfl (Zdi Tryz.underlying3) hg ?_;(conv=>whnf);left;(conv=>whnf);left;(conv=>whnf);left;(conv=>whnf);refine aX ?_;(conv=>whnf);obtain ⟨hg,h⟩:=isS_e h;cases h;refine Zfh (Zen (o:=1) (qo:=352) (ek:=(fun (k_14:Int)=>(AV.int IntKind.i64 k_14))) (gN:=group_node.g) gs id (@Sum.inr group_nodeD group_nodeU u_7) [352,353,354,355,356,357] _ rfl (by assumption) rfl rfl (lkE_c _ rfl (WkO.eq (congrArg (fun X=>AO.rows false [X]) rQ)) (lkE_c _ rfl (WkO.eq rfl) (lkE_c _ rfl (WkO.eq rfl) (lkE_c _ rfl (WkO.eq rfl) (lkE_c _ rfl (WkO.eq rfl) (lkE_c _ rfl (WkO.eq rfl) lkE_n)))))) rfl (.refl _)) ?_;exact gI [(0,0),(1,1),(2,2),(3,3),(4,4),(5,5),(6,6),(7,7),(8,8),(9,9)]
theorem Zci {s r} (h:ZaS F s=some r):FZ ml 44 [(0,.rows true (List.map Zaa.c s))] [.osw 0 2] (.osw 1 2) [(0,.rows true (List.map Zaa.c s)),(1,.rows true (List.map Zaa.c r))]:=by
 unfold ZaS at h
 obtain ⟨hg,h⟩:=grd_e h
 cases h
 refine ZeC 2000 Tryz.func44 rfl (by kernel_rfl) mixed (by show 1≤8;decide) (by show 1≤W;decide) rfl ?_
 refine oL ?_
 refine And.intro (fun hp=>?_) ?_
 ·conv=>whnf
  exact Zdl [(0,0),(1,128)] rfl (by rw [hp];rfl) rfl
 refine oL ?_
 refine And.intro (Zal.map (fun _=>rfl)) ?_
 refine And.intro Zal.nil ?_
 refine And.intro (show 0+(List.map Zaa.c s).length≤LIM by simpa using hg) ?_
 conv=>whnf
 exact gI [(0,0),(1,192)]
theorem Zbh {c cq1 gs cq3 tb l lq6 lq7 lq8 lq9 m r} (h:Za6 F c cq1 gs cq3 tb l lq6 lq7 lq8 lq9 m=some r):FZ ml 20 [(0,rF [sM (cInt IntKind.i64) c,.mapo 1,pp 2,pp 3,.osw 4 2,.osw 5 1,.osw 6 1,.osw 7 2,.bool cq1]),(1,AO.gmap (@encG Int group_node (fun (k_14:Int)=>(AV.int IntKind.i64 k_14)) group_node.g gs) none),(2,rF [.osw 8 4,aI cq3,.mapo 9]),(3,.rows true [(@crowB tb)]),(4,rT Zaa.c l),(5,rT (cInt IntKind.i64) lq6),(6,rT (cInt IntKind.u32) lq7),(7,rT Zah.c lq8),(8,rT Zag.c lq9),(9,AO.mapo true (encM (fun (k_14:Zae)=>(AV.agg (Zae.c k_14))) (fun (k_14:Int)=>(AV.int IntKind.i64 k_14)) m))] [pp 0] (.osw 10 2) [(0,rF [sM (cInt IntKind.i64) c,.mapo 1,pp 2,pp 3,.osw 4 2,.osw 5 1,.osw 6 1,.osw 7 2,.bool cq1]),(1,AO.gmap (@encG Int group_node (fun (k_14:Int)=>(AV.int IntKind.i64 k_14)) group_node.g gs) none),(2,rF [.osw 8 4,aI cq3,.mapo 9]),(3,.rows true [(@crowB tb)]),(4,rT Zaa.c l),(5,rT (cInt IntKind.i64) lq6),(6,rT (cInt IntKind.u32) lq7),(7,rT Zah.c lq8),(8,rT Zag.c lq9),(9,AO.mapo true (encM (fun (k_14:Zae)=>(AV.agg (Zae.c k_14))) (fun (k_14:Int)=>(AV.int IntKind.i64 k_14)) m)),(10,rT Zaa.c r)]:=by
 refine fG Tryz.func20 ?_
 unfold Za6 at h
 (conv=>whnf);left;(conv=>whnf);exact cG [4] h Zci fun y_0 h=>qG [(0,0),(1,1),(2,2),(3,3),(4,4),(5,5),(6,6),(7,7),(8,8),(9,9),(10,257)]
theorem ZfT {r} (h:ZbX F=some r):FZ ml 9 [] [] (.bool r) []:=by
 refine fA Tryz.func9 ?_
 unfold ZbX at h
 (conv=>whnf);left;(conv=>whnf);left;obtain ⟨y_0,hy,h⟩:=ZaL h;rcases y_0 with y_0 | y_0
 ·replace h:=Zfj h;refine ⟨_,_,(Zc3 (cons2 (congrArg AV.sl rQ) rfl) (Zav (Ze3 hy) rfl)),Or.inr ⟨[64],rfl,?_⟩⟩;(conv=>whnf);left;obtain ⟨y_1,hy,h⟩:=ZaL h;rcases y_1 with y_1 | y_1
  ·replace h:=Zfj h;refine ⟨_,_,(ZhL (WkL.cons Wk.esl WkL.nil) (Zav (Ze3 hy) rfl)),Or.inr ⟨[],rfl,?_⟩⟩;exact qR
  replace h:=Zfi h;refine ⟨_,_,(ZhL (WkL.cons Wk.esl WkL.nil) (Ze2 hy)),Or.inr ⟨[],rfl,?_⟩⟩;exact qR
 replace h:=Zfi h;refine ⟨_,_,(Zc3 (cons2 (congrArg AV.sl rQ) rfl) (Ze2 hy)),Or.inr ⟨[64],rfl,?_⟩⟩;(conv=>whnf);left;obtain ⟨y_2,hy,h⟩:=ZaL h;rcases y_2 with y_2 | y_2
 ·replace h:=Zfj h;refine ⟨_,_,(ZhL (WkL.cons Wk.esl WkL.nil) (Zav (Ze3 hy) rfl)),Or.inr ⟨[],rfl,?_⟩⟩;(conv=>whnf);refine jN h fun t27_3=>jM [(1,pp 0),(27,.bool t27_3)] [(0,rF [sM (cInt IntKind.i64) y_0.2.1,.mapo 1,pp 2,pp 3,.osw 4 2,.osw 5 1,.osw 6 1,.osw 7 2,.bool y_0.2.2.1]),(1,AO.gmap (@encG Int group_node (fun (k_14:Int)=>(AV.int IntKind.i64 k_14)) group_node.g y_0.2.2.2.1) none),(2,rF [.osw 8 4,aI y_0.2.2.2.2.1,.mapo 9]),(3,.rows true [(@crowB y_0.2.2.2.2.2.1)]),(4,rT Zaa.c y_0.2.2.2.2.2.2.1),(5,rT (cInt IntKind.i64) y_0.2.2.2.2.2.2.2.1),(6,rT (cInt IntKind.u32) y_0.2.2.2.2.2.2.2.2.1),(7,rT Zah.c y_0.2.2.2.2.2.2.2.2.2.1),(8,rT Zag.c y_0.2.2.2.2.2.2.2.2.2.2.1),(9,AO.mapo true (encM (fun (k_14:Zae)=>(AV.agg (Zae.c k_14))) (fun (k_14:Int)=>(AV.int IntKind.i64 k_14)) y_0.2.2.2.2.2.2.2.2.2.2.2))] 10 (fun h=>qE [(0,96),(1,97),(2,98),(3,99),(4,100),(5,101),(6,102),(7,103),(8,104),(9,105)]) fun h=>?_;(conv=>whnf);left;refine bS h (fun h=>qR) fun h=>?_;(conv=>whnf);refine jN h fun ⟨c_8,c_9,gs_10,c_11,tb_12,l_13,l_14,l_15,l_16,l_17⟩=>jM [(1,pp 0)] [(0,rF [sM (cInt IntKind.i64) c_8,.mapo 1,pp 2,pp 3,.osw 4 2,.osw 5 1,.osw 6 1,.osw 7 2,.bool c_9]),(1,AO.gmap (@encG Int group_node (fun (k_14:Int)=>(AV.int IntKind.i64 k_14)) group_node.g gs_10) none),(2,rF [.osw 8 4,aI c_11,.mapo 9]),(3,.rows true [(@crowB tb_12)]),(4,rT Zaa.c l_13),(5,rT (cInt IntKind.i64) l_14),(6,rT (cInt IntKind.u32) l_15),(7,rT Zah.c l_16),(8,rT Zag.c l_17),(9,AO.mapo true (encM (fun (k_14:Zae)=>(AV.agg (Zae.c k_14))) (fun (k_14:Int)=>(AV.int IntKind.i64 k_14)) y_0.2.2.2.2.2.2.2.2.2.2.2))] 10 (fun h=>?_) fun h=>?_
  ·(conv=>whnf);left;(conv=>whnf);refine lI (fun n' ⟨i_21,c_22,c_23,gs_24,c_25,tb_26,l_27,l_28,l_29,l_30,l_31⟩=>ZbW F y_0 n' i_21 c_22 c_23 gs_24 c_25 tb_26 l_27 l_28 l_29 l_30 l_31) (fun ⟨i_21,c_22,c_23,gs_24,c_25,tb_26,l_27,l_28,l_29,l_30,l_31⟩=>[(1,pp 0),(5,aI i_21)]) (fun ⟨i_21,c_22,c_23,gs_24,c_25,tb_26,l_27,l_28,l_29,l_30,l_31⟩=>[(0,rF [sM (cInt IntKind.i64) c_22,.mapo 1,pp 2,pp 3,.osw 4 2,.osw 5 1,.osw 6 1,.osw 7 2,.bool c_23]),(1,AO.gmap (@encG Int group_node (fun (k_14:Int)=>(AV.int IntKind.i64 k_14)) group_node.g gs_24) none),(2,rF [.osw 8 4,aI c_25,.mapo 9]),(3,.rows true [(@crowB tb_26)]),(4,rT Zaa.c l_27),(5,rT (cInt IntKind.i64) l_28),(6,rT (cInt IntKind.u32) l_29),(7,rT Zah.c l_30),(8,rT Zag.c l_31),(9,AO.mapo true (encM (fun (k_14:Zae)=>(AV.agg (Zae.c k_14))) (fun (k_14:Int)=>(AV.int IntKind.i64 k_14)) y_0.2.2.2.2.2.2.2.2.2.2.2))]) 10 ((0:Int),y_0.2.1,y_0.2.2.1,y_0.2.2.2.1,y_0.2.2.2.2.1,y_0.2.2.2.2.2.1,y_0.2.2.2.2.2.2.1,y_0.2.2.2.2.2.2.2.1,y_0.2.2.2.2.2.2.2.2.1,y_0.2.2.2.2.2.2.2.2.2.1,y_0.2.2.2.2.2.2.2.2.2.2.1) [(0,0),(1,1),(2,2),(3,3),(4,4),(5,5),(6,6),(7,7),(8,8),(9,9)] h ?_;rintro n_20 ⟨i_21,c_22,c_23,gs_24,c_25,tb_26,l_27,l_28,l_29,l_30,l_31⟩ h;dsimp only at h;rw [ZbW.eq_2] at h;(conv=>whnf);left;refine bS h (fun h=>?_) fun h=>?_
   ·(conv=>whnf);left;(conv=>whnf);left;(conv=>whnf);refine cG [0,1,2,3,4,5,6,7,8,9] h Za4 fun y_33 h=>?_;exact rE (n_20,(IntKind.wrap IntKind.i64 (i_21+(1:Int))),y_33.2.1,y_33.2.2.1,y_33.2.2.2.1,y_33.2.2.2.2.1,y_33.2.2.2.2.2.1,y_33.2.2.2.2.2.2.1,y_33.2.2.2.2.2.2.2.1,y_33.2.2.2.2.2.2.2.2.1,y_33.2.2.2.2.2.2.2.2.2.1,y_33.2.2.2.2.2.2.2.2.2.2) [(0,0),(1,1),(2,2),(3,3),(4,148),(5,149),(6,150),(7,151),(8,152),(9,9)] h
   exact qE [(0,0),(1,1),(2,2),(3,3),(4,4),(5,5),(6,6),(7,7),(8,8),(9,9)]
  (conv=>whnf);left;(conv=>whnf);refine cG [0,1,2,3,4,5,6,7,8,9] h Za4 fun y_34 h=>?_;(conv=>whnf);refine cG [0,1,2,3,84,85,86,87,88,9] h Zds fun y_35 h=>?_;(conv=>whnf);left;(conv=>whnf);left;refine bS h (fun h=>?_) fun h=>?_
  ·(conv=>whnf);refine bS h (fun h=>?_) fun h=>?_
   ·(conv=>whnf);refine bS h (fun h=>?_) fun h=>?_
    ·(conv=>whnf);refine bS h (fun h=>?_) fun h=>?_
     ·(conv=>whnf);refine bS h (fun h=>?_) fun h=>?_
      ·(conv=>whnf);refine bS h (fun h=>?_) fun h=>?_
       ·(conv=>whnf);refine cG [0,1,2,3,84,85,86,87,88,9] h Zbh fun y_36 h=>?_;(conv=>whnf);refine bS h (fun h=>?_) fun h=>?_
        ·(conv=>whnf);refine cG [0,1,2,3,84,85,86,87,88,9] h Zbh fun y_37 h=>?_;(conv=>whnf);refine aX ?_;(conv=>whnf);refine oB h fun y_38 h=>?_;(conv=>whnf);refine oB h fun y_39 h=>?_;(conv=>whnf);left;(conv=>whnf);refine aX ?_;(conv=>whnf);refine bS h (fun h=>?_) fun h=>?_
         ·(conv=>whnf);left;(conv=>whnf);exact cG [0,1,2,3,84,85,86,87,88,9] h Za4 fun y_40 h=>qR
         exact qR
        exact qR
       exact qR
      exact qR
     exact qR
    exact qR
   exact qR
  exact qR
 replace h:=Zfi h;refine ⟨_,_,(ZhL (WkL.cons Wk.esl WkL.nil) (Ze2 hy)),Or.inr ⟨[],rfl,?_⟩⟩;(conv=>whnf);refine jN h fun t27_41=>jM [(1,pp 0),(27,.bool t27_41)] [(0,rF [sM (cInt IntKind.i64) y_0.2.1,.mapo 1,pp 2,pp 3,.osw 4 2,.osw 5 1,.osw 6 1,.osw 7 2,.bool y_0.2.2.1]),(1,AO.gmap (@encG Int group_node (fun (k_14:Int)=>(AV.int IntKind.i64 k_14)) group_node.g y_0.2.2.2.1) none),(2,rF [.osw 8 4,aI y_0.2.2.2.2.1,.mapo 9]),(3,.rows true [(@crowB y_0.2.2.2.2.2.1)]),(4,rT Zaa.c y_0.2.2.2.2.2.2.1),(5,rT (cInt IntKind.i64) y_0.2.2.2.2.2.2.2.1),(6,rT (cInt IntKind.u32) y_0.2.2.2.2.2.2.2.2.1),(7,rT Zah.c y_0.2.2.2.2.2.2.2.2.2.1),(8,rT Zag.c y_0.2.2.2.2.2.2.2.2.2.2.1),(9,AO.mapo true (encM (fun (k_14:Zae)=>(AV.agg (Zae.c k_14))) (fun (k_14:Int)=>(AV.int IntKind.i64 k_14)) y_0.2.2.2.2.2.2.2.2.2.2.2))] 10 (fun h=>qE [(0,96),(1,97),(2,98),(3,99),(4,100),(5,101),(6,102),(7,103),(8,104),(9,105)]) fun h=>?_;(conv=>whnf);left;refine bS h (fun h=>qR) fun h=>?_;(conv=>whnf);refine jN h fun ⟨c_44,c_45,gs_46,c_47,tb_48,l_49,l_50,l_51,l_52,l_53⟩=>jM [(1,pp 0)] [(0,rF [sM (cInt IntKind.i64) c_44,.mapo 1,pp 2,pp 3,.osw 4 2,.osw 5 1,.osw 6 1,.osw 7 2,.bool c_45]),(1,AO.gmap (@encG Int group_node (fun (k_14:Int)=>(AV.int IntKind.i64 k_14)) group_node.g gs_46) none),(2,rF [.osw 8 4,aI c_47,.mapo 9]),(3,.rows true [(@crowB tb_48)]),(4,rT Zaa.c l_49),(5,rT (cInt IntKind.i64) l_50),(6,rT (cInt IntKind.u32) l_51),(7,rT Zah.c l_52),(8,rT Zag.c l_53),(9,AO.mapo true (encM (fun (k_14:Zae)=>(AV.agg (Zae.c k_14))) (fun (k_14:Int)=>(AV.int IntKind.i64 k_14)) y_0.2.2.2.2.2.2.2.2.2.2.2))] 10 (fun h=>?_) fun h=>?_
 ·(conv=>whnf);left;(conv=>whnf);refine lI (fun n' ⟨i_57,c_58,c_59,gs_60,c_61,tb_62,l_63,l_64,l_65,l_66,l_67⟩=>ZbV F y_0 n' i_57 c_58 c_59 gs_60 c_61 tb_62 l_63 l_64 l_65 l_66 l_67) (fun ⟨i_57,c_58,c_59,gs_60,c_61,tb_62,l_63,l_64,l_65,l_66,l_67⟩=>[(1,pp 0),(5,aI i_57)]) (fun ⟨i_57,c_58,c_59,gs_60,c_61,tb_62,l_63,l_64,l_65,l_66,l_67⟩=>[(0,rF [sM (cInt IntKind.i64) c_58,.mapo 1,pp 2,pp 3,.osw 4 2,.osw 5 1,.osw 6 1,.osw 7 2,.bool c_59]),(1,AO.gmap (@encG Int group_node (fun (k_14:Int)=>(AV.int IntKind.i64 k_14)) group_node.g gs_60) none),(2,rF [.osw 8 4,aI c_61,.mapo 9]),(3,.rows true [(@crowB tb_62)]),(4,rT Zaa.c l_63),(5,rT (cInt IntKind.i64) l_64),(6,rT (cInt IntKind.u32) l_65),(7,rT Zah.c l_66),(8,rT Zag.c l_67),(9,AO.mapo true (encM (fun (k_14:Zae)=>(AV.agg (Zae.c k_14))) (fun (k_14:Int)=>(AV.int IntKind.i64 k_14)) y_0.2.2.2.2.2.2.2.2.2.2.2))]) 10 ((0:Int),y_0.2.1,y_0.2.2.1,y_0.2.2.2.1,y_0.2.2.2.2.1,y_0.2.2.2.2.2.1,y_0.2.2.2.2.2.2.1,y_0.2.2.2.2.2.2.2.1,y_0.2.2.2.2.2.2.2.2.1,y_0.2.2.2.2.2.2.2.2.2.1,y_0.2.2.2.2.2.2.2.2.2.2.1) [(0,0),(1,1),(2,2),(3,3),(4,4),(5,5),(6,6),(7,7),(8,8),(9,9)] h ?_;rintro n_56 ⟨i_57,c_58,c_59,gs_60,c_61,tb_62,l_63,l_64,l_65,l_66,l_67⟩ h;dsimp only at h;rw [ZbV.eq_2] at h;(conv=>whnf);left;refine bS h (fun h=>?_) fun h=>?_
  ·(conv=>whnf);left;(conv=>whnf);left;(conv=>whnf);refine cG [0,1,2,3,4,5,6,7,8,9] h Za4 fun y_69 h=>?_;exact rE (n_56,(IntKind.wrap IntKind.i64 (i_57+(1:Int))),y_69.2.1,y_69.2.2.1,y_69.2.2.2.1,y_69.2.2.2.2.1,y_69.2.2.2.2.2.1,y_69.2.2.2.2.2.2.1,y_69.2.2.2.2.2.2.2.1,y_69.2.2.2.2.2.2.2.2.1,y_69.2.2.2.2.2.2.2.2.2.1,y_69.2.2.2.2.2.2.2.2.2.2) [(0,0),(1,1),(2,2),(3,3),(4,148),(5,149),(6,150),(7,151),(8,152),(9,9)] h
  exact qE [(0,0),(1,1),(2,2),(3,3),(4,4),(5,5),(6,6),(7,7),(8,8),(9,9)]
 (conv=>whnf);left;(conv=>whnf);refine cG [0,1,2,3,4,5,6,7,8,9] h Za4 fun y_70 h=>?_;(conv=>whnf);refine cG [0,1,2,3,84,85,86,87,88,9] h Zds fun y_71 h=>?_;(conv=>whnf);left;(conv=>whnf);left;refine bS h (fun h=>?_) fun h=>?_
 ·(conv=>whnf);refine bS h (fun h=>?_) fun h=>?_
  ·(conv=>whnf);refine bS h (fun h=>?_) fun h=>?_
   ·(conv=>whnf);refine bS h (fun h=>?_) fun h=>?_
    ·(conv=>whnf);refine bS h (fun h=>?_) fun h=>?_
     ·(conv=>whnf);refine bS h (fun h=>?_) fun h=>?_
      ·(conv=>whnf);refine cG [0,1,2,3,84,85,86,87,88,9] h Zbh fun y_72 h=>?_;(conv=>whnf);refine bS h (fun h=>?_) fun h=>?_
       ·(conv=>whnf);refine cG [0,1,2,3,84,85,86,87,88,9] h Zbh fun y_73 h=>?_;(conv=>whnf);refine aX ?_;(conv=>whnf);refine oB h fun y_74 h=>?_;(conv=>whnf);refine oB h fun y_75 h=>?_;(conv=>whnf);left;(conv=>whnf);refine aX ?_;(conv=>whnf);refine bS h (fun h=>?_) fun h=>?_
        ·(conv=>whnf);left;(conv=>whnf);exact cG [0,1,2,3,84,85,86,87,88,9] h Za4 fun y_76 h=>qR
        exact qR
       exact qR
      exact qR
     exact qR
    exact qR
   exact qR
  exact qR
 exact qR
theorem Zg4 {body r} (h:ZcD F body=some r):FZ ml 32 [] [.str body] (.tup [aI r.1,.bool r.2]) []:=by
 refine fA Tryz.func32 ?_
 unfold ZcD at h
 (conv=>whnf);refine jS h fun o4 vu=>jT [] [] 0 (fun h k4 e=>?_) fun h=>?_
 ·(conv=>whnf);left;(conv=>whnf);refine lI (fun n' x'=>Zbn F body n' x'.1 x'.2) (fun x'=>[(0,.str body),(4,aI x'.1),(5,aI x'.2)]) (fun x'=>[]) 0 ((0:Int),(9:Int)) [] h ?_;rintro n_22 ⟨i_23,left_24⟩ h;dsimp only at h;rw [Zbn.eq_2] at h;(conv=>whnf);left;refine bS h (fun h=>?_) fun h=>?_
  ·(conv=>whnf);left;(conv=>whnf);refine gX h fun h=>?_;obtain ⟨y_29,hy,h⟩:=ZaL h;refine opt_i y_29 hy ?_;(conv=>whnf);refine jN h fun left_30=>jM [(0,.str body),(4,aI i_23),(5,aI left_30)] [] 0 (fun h=>qE []) fun h=>?_;(conv=>whnf);left;refine bS h (fun h=>?_) fun h=>?_
   ·(conv=>whnf);left;(conv=>whnf);refine gX h fun h=>?_;obtain ⟨y_31,hy,h⟩:=ZaL h;refine opt_i y_31 hy ?_;(conv=>whnf);refine bS h (fun h=>?_) fun h=>?_
    ·(conv=>whnf);refine gX h fun h=>?_;obtain ⟨y_32,hy,h⟩:=ZaL h;refine opt_i y_32 hy ?_;(conv=>whnf);refine aX ?_;cases h;cases k4;exact rfl
    (conv=>whnf);refine aX ?_;cases h;cases k4;exact rfl
   exact rE (n_22,(IntKind.wrap IntKind.i64 (i_23+(1:Int))),left_30) [] h
  exact qE []
 exact qR
theorem ZgE {f n r} (h:Zdk F f n=some r):FZ ml 34 [] [sM Zac.c f,aI n] (.agg [aI r.1,aI r.2.1,aI r.2.2.1,aI r.2.2.2.1,aI r.2.2.2.2.1,aI r.2.2.2.2.2.1,aI r.2.2.2.2.2.2.1,.bool r.2.2.2.2.2.2.2.1,.osw 0 2,.str r.2.2.2.2.2.2.2.2.1]) [(0,rT Zaa.c r.2.2.2.2.2.2.2.2.2)]:=by
 refine fG Tryz.func34 ?_
 unfold Zdk at h
 (conv=>whnf);refine Or.inr (Zg9 8 2 _ rfl rfl ?_);(conv=>whnf);refine aX ?_;(conv=>whnf);refine oB h fun y_0 h=>?_;(conv=>whnf);refine aX ?_;(conv=>whnf);refine oB h fun y_1 h=>?_;(conv=>whnf);refine aX ?_;(conv=>whnf);refine oB h fun y_2 h=>?_;(conv=>whnf);refine aX ?_;(conv=>whnf);refine oB h fun y_3 h=>?_;(conv=>whnf);refine aX ?_;(conv=>whnf);refine oB h fun y_4 h=>?_;(conv=>whnf);refine aX ?_;(conv=>whnf);refine oB h fun y_5 h=>?_;(conv=>whnf);refine aX ?_;(conv=>whnf);refine oB h fun y_6 h=>?_;(conv=>whnf);refine aX ?_;(conv=>whnf);refine oB h fun y_7 h=>?_;(conv=>whnf);refine gS h fun h=>?_;(conv=>whnf);refine oB h fun y_8 h=>?_;(conv=>whnf);refine Or.inr (Zfb 8 2 _ rfl rfl ?_);(conv=>whnf);refine Or.inr (Zg9 8 2 _ rfl rfl ?_);(conv=>whnf);refine aX ?_;(conv=>whnf);refine jN h fun l_17=>jM [(4,pp 0),(5,pp 1)] [(0,rF [aI 0,aI 0,aI 0,aI 0,aI 0,aI 0,aI 0,.bool false,.osw 2 2,.str []]),(1,rF [aI y_0.N,aI y_1.N,aI y_2.N,aI y_3.N,aI y_4.N,aI y_5.N,aI y_6.N,.bool (y_7.N==(1:Int)),.osw 3 2,.str y_8.S]),(2,rT Zaa.c []),(3,rT Zaa.c l_17)] 4 (fun h=>?_) fun h=>?_
 ·(conv=>whnf);left;(conv=>whnf);refine lI (fun n' x'=>Zbm F f n n' x'.1 x'.2) (fun x'=>[(0,sM Zac.c f),(4,pp 0),(5,pp 1),(48,aI n),(49,aI x'.1)]) (fun x'=>[(0,rF [aI 0,aI 0,aI 0,aI 0,aI 0,aI 0,aI 0,.bool false,.osw 2 2,.str []]),(1,rF [aI y_0.N,aI y_1.N,aI y_2.N,aI y_3.N,aI y_4.N,aI y_5.N,aI y_6.N,.bool (y_7.N==(1:Int)),.osw 3 2,.str y_8.S]),(2,rT Zaa.c []),(3,rT Zaa.c x'.2)]) 4 ((0:Int),[]) [(0,32),(1,1376),(2,33),(3,1344)] h ?_;rintro n_22 ⟨t49_23,l_24⟩ h;dsimp only at h;rw [Zbm.eq_2] at h;(conv=>whnf);left;refine bS h (fun h=>?_) fun h=>?_
  ·(conv=>whnf);left;(conv=>whnf);refine gX h fun h=>?_;(conv=>whnf);refine oB h fun y_27 h=>?_;(conv=>whnf);refine gX h fun h=>?_;(conv=>whnf);refine oB h fun y_28 h=>?_;(conv=>whnf);left;(conv=>whnf);left;(conv=>whnf);refine aX ?_;(conv=>whnf);refine aX ?_;(conv=>whnf);refine gS h fun h=>?_;(conv=>whnf);left;(conv=>whnf);refine aX ?_;exact rE (n_22,(IntKind.wrap IntKind.i64 (t49_23+(1:Int))),(l_24++((Zaa.mk y_27.N y_28.S)::[]))) [(0,0),(1,1),(2,2),(3,676)] h
  exact qE [(0,0),(1,1),(2,2),(3,3)]
 exact qG [(0,3)]
theorem ZfF {body r} (h:Zb5 F body=some r):FZ ml 11 [] [.str body] (.tup [.agg (Zad.c r.1),aI r.2]) []:=by
 refine fK Tryz.func11 ?_
 unfold Zb5 at h
 (conv=>whnf);left;(conv=>whnf);left;(conv=>whnf);left;(conv=>whnf);refine cL h Zg4 fun y_0 h=>?_;(conv=>whnf);left;refine bS h (fun h=>qK) fun h=>?_;(conv=>whnf);refine jN h fun l_1=>jM [(0,.str body),(2,pp 0),(4,.osw 1 1),(5,aI y_0.1)] [(0,rF [aI 0,aI 0,aI 0,aI 0,aI 0,aI 0,aI 0,.bool false,.esl,.str []]),(1,rT (cInt IntKind.i64) l_1)] 2 (fun h=>?_) fun h=>?_
 ·(conv=>whnf);left;(conv=>whnf);refine lI (fun n' x'=>ZbB F y_0 n' x'.1 x'.2) (fun x'=>[(0,.str body),(2,pp 0),(4,.osw 1 1),(5,aI y_0.1),(18,aI y_0.1),(19,aI x'.1)]) (fun x'=>[(0,rF [aI 0,aI 0,aI 0,aI 0,aI 0,aI 0,aI 0,.bool false,.esl,.str []]),(1,rT (cInt IntKind.i64) x'.2)]) 2 ((0:Int),((1:Int)::((1:Int)::((1:Int)::((1:Int)::((1:Int)::((1:Int)::((1:Int)::((1:Int)::((1:Int)::[])))))))))) [(0,32),(1,96)] h ?_;rintro n_2 ⟨t19_3,l_4⟩ h;dsimp only at h;rw [ZbB.eq_2] at h;(conv=>whnf);left;refine bS h (fun h=>?_) fun h=>?_
  ·(conv=>whnf);left;(conv=>whnf);left;(conv=>whnf);refine And.intro (Zal.cons rfl (Zal.cons rfl Zal.nil)) ?_;(conv=>whnf);refine aX ?_;(conv=>whnf);refine gS h fun h=>?_;exact rE (n_2,(IntKind.wrap IntKind.i64 (t19_3+(1:Int))),(l_4++((1:Int)::((3:Int)::[])))) [(0,0),(1,98)] h
  exact qE [(0,0),(1,1)]
 (conv=>whnf);left;(conv=>whnf);refine aX ?_;(conv=>whnf);refine aX ?_;(conv=>whnf);refine gS h fun h=>?_;(conv=>whnf);refine gX h fun h=>?_;(conv=>whnf);left;obtain ⟨y_5,hy,h⟩:=ZaL h;refine ⟨_,_,(Zc3 (cons2 (congrArg AV.sl rQ) (cons2 (congrArg AV.sl rQ) rfl)) (Zav (ZfI hy) rfl)),Or.inr ⟨[66,130],rfl,?_⟩⟩;(conv=>whnf);refine jN h fun t42_7=>jM [(2,pp 0),(5,aI y_0.1),(7,sM Zac.c y_5.2),(42,.bool t42_7)] [(0,rF [aI 0,aI 0,aI 0,aI 0,aI 0,aI 0,aI 0,.bool false,.esl,.str []])] 1 (fun h=>?_) fun h=>?_
 ·(conv=>whnf);left;refine bS h (fun h=>qE [(0,0)]) fun h=>?_;(conv=>whnf);refine aX ?_;(conv=>whnf);refine oB h fun y_8 h=>?_;exact qE [(0,0)]
 (conv=>whnf);left;refine bS h (fun h=>qK) fun h=>?_;(conv=>whnf);left;(conv=>whnf);exact cR h (fun h=>Zav (ZgE h) rfl) fun y_9 h=>qK
theorem ZfE {b at_ r} (h:ZaK F b at_=some r):FZ ml 50 [] [sM (cInt IntKind.u8) b,aI at_] (.tup [.int IntKind.u64 r.1,aI r.2.1,aI r.2.2]) []:=by
 refine fA Tryz.func50 ?_
 unfold ZaK at h
 (conv=>whnf);refine jS h fun o2 end__4=>jT [(0,sM (cInt IntKind.u8) b),(1,aI at_),(7,aI end__4)] [] 0 (fun h k2 e=>?_) fun h=>?_
 ·(conv=>whnf);left;(conv=>whnf);refine lI (fun n' x'=>ZaO F b at_ n' x') (fun x'=>[(0,sM (cInt IntKind.u8) b),(1,aI at_),(7,aI x')]) (fun x'=>[]) 0 at_ [] h ?_;rintro n_7 end__8 h;rw [ZaO.eq_2] at h;(conv=>whnf);refine jN h fun t22_10=>jM [(0,sM (cInt IntKind.u8) b),(1,aI at_),(7,aI end__8),(22,.bool t22_10)] [] 0 (fun h=>?_) fun h=>?_
  ·(conv=>whnf);left;refine bS h (fun h=>?_) fun h=>?_
   ·(conv=>whnf);refine gX h fun h=>?_;(conv=>whnf);refine oB h fun y_11 h=>?_;exact qE []
   exact qE []
  (conv=>whnf);left;refine bS h (fun h=>?_) fun h=>?_
  ·(conv=>whnf);left;(conv=>whnf);left;refine bS h (fun h=>?_) fun h=>?_
   ·cases h;cases k2;exact rfl
   exact rE (n_7,(IntKind.wrap IntKind.i64 (end__8+(1:Int)))) [] h
  exact qE []
 (conv=>whnf);left;refine bS h (fun h=>?_) fun h=>?_
 ·(conv=>whnf);refine jS h fun o7 vu=>jT [] [] 0 (fun h k7 e=>?_) fun h=>?_
  ·(conv=>whnf);left;(conv=>whnf);refine lI (fun n' x'=>Zan F b at_ end__4 n' x') (fun x'=>[(0,sM (cInt IntKind.u8) b),(1,aI at_),(7,aI end__4),(9,aI x')]) (fun x'=>[]) 0 (IntKind.wrap IntKind.i64 (at_+(1:Int))) [] h ?_;rintro n_24 i_25 h;rw [Zan.eq_2] at h;(conv=>whnf);left;refine bS h (fun h=>?_) fun h=>?_
   ·(conv=>whnf);left;(conv=>whnf);refine jN h fun t50_29=>jM [(0,sM (cInt IntKind.u8) b),(1,aI at_),(7,aI end__4),(9,aI i_25),(50,.bool t50_29)] [] 0 (fun h=>?_) fun h=>?_
    ·(conv=>whnf);left;(conv=>whnf);refine gX h fun h=>?_;(conv=>whnf);refine oB h fun y_30 h=>?_;exact qE []
    (conv=>whnf);left;refine bS h (fun h=>?_) fun h=>?_
    ·cases h;cases k7;exact rfl
    exact rE (n_24,(IntKind.wrap IntKind.i64 (i_25+(1:Int)))) [] h
   exact qE []
  exact qR
 (conv=>whnf);refine jN h fun t73_34=>jM [(0,sM (cInt IntKind.u8) b),(1,aI at_),(7,aI end__4),(8,AV.int IntKind.u64 (0:Int)),(73,.bool t73_34)] [] 0 (fun h=>?_) fun h=>?_
 ·(conv=>whnf);left;refine bS h (fun h=>?_) fun h=>?_
  ·(conv=>whnf);refine gX h fun h=>?_;(conv=>whnf);refine oB h fun y_35 h=>?_;(conv=>whnf);refine bS h (fun h=>qE []) fun h=>?_;(conv=>whnf);refine bS h (fun h=>?_) fun h=>?_
   ·(conv=>whnf);refine gX h fun h=>?_;(conv=>whnf);refine oB h fun y_36 h=>?_;exact qE []
   exact qE []
  (conv=>whnf);refine bS h (fun h=>?_) fun h=>?_
  ·(conv=>whnf);refine gX h fun h=>?_;(conv=>whnf);refine oB h fun y_37 h=>?_;exact qE []
  exact qE []
 (conv=>whnf);left;refine bS h (fun h=>qR) fun h=>?_;(conv=>whnf);refine jN h fun n_42=>jM [(7,aI end__4),(8,AV.int IntKind.u64 n_42)] [] 0 (fun h=>?_) fun h=>?_
 ·(conv=>whnf);left;(conv=>whnf);refine lI (fun n' x'=>ZaD F b at_ n' x'.1 x'.2) (fun x'=>[(0,sM (cInt IntKind.u8) b),(1,aI at_),(7,aI end__4),(8,AV.int IntKind.u64 x'.1),(10,aI x'.2)]) (fun x'=>[]) 0 ((0:Int),end__4) [] h ?_;rintro n_45 ⟨n_46,i_47⟩ h;dsimp only at h;rw [ZaD.eq_2] at h;(conv=>whnf);left;refine bS h (fun h=>?_) fun h=>?_
  ·(conv=>whnf);left;(conv=>whnf);refine gX h fun h=>?_;(conv=>whnf);refine oB h fun y_49 h=>?_;(conv=>whnf);refine aX ?_;exact rE (n_45,(IntKind.wrap IntKind.u64 ((IntKind.wrap IntKind.u64 (n_46 * (128:Int)))+(@Int.tmod (IntKind.wrap IntKind.u64 y_49) (128:Int)))),(IntKind.wrap IntKind.i64 (i_47 - (1:Int)))) [] h
  exact qE []
 exact qR
theorem Zfo {kinds b r} (h:Zbl F kinds b=some r):FZ ml 35 [] [sM (cInt IntKind.i64) kinds,sM (cInt IntKind.u8) b] (.tup [.osw 0 3,aI r.1]) [(0,rT Zac.c r.2)]:=by
 refine fG Tryz.func35 ?_
 unfold Zbl at h
 (conv=>whnf);refine jS h fun o8 ⟨at__24,l_25⟩=>jT [(1,sM (cInt IntKind.u8) b),(6,.osw 0 3),(7,aI (at__24))] [(0,rT Zac.c l_25)] 1 (fun h k8 e=>?_) fun h=>?_
 ·(conv=>whnf);left;(conv=>whnf);refine lI (fun n' x'=>Zar F kinds b n' x'.1 x'.2.1 x'.2.2) (fun x'=>[(0,sM (cInt IntKind.i64) kinds),(1,sM (cInt IntKind.u8) b),(6,.osw 0 3),(7,aI x'.1),(8,aI x'.2.1)]) (fun x'=>[(0,rT Zac.c x'.2.2)]) 1 ((0:Int),(0:Int),[]) [(0,96)] h ?_;rintro n_38 ⟨at__39,i_40,l_41⟩ h;dsimp only at h;rw [Zar.eq_2] at h;(conv=>whnf);left;refine bS h (fun h=>?_) fun h=>?_
  ·(conv=>whnf);left;(conv=>whnf);refine gX h fun h=>?_;(conv=>whnf);refine oB h fun y_48 h=>?_;(conv=>whnf);left;(conv=>whnf);left;(conv=>whnf);refine jN h fun t31_49=>jM [(0,sM (cInt IntKind.i64) kinds),(1,sM (cInt IntKind.u8) b),(6,.osw 0 3),(7,aI at__39),(8,aI i_40),(9,pp 1),(31,.bool t31_49)] [(0,rT Zac.c l_41),(1,rF [aI y_48,aI 0,.str []])] 2 (fun h=>qE [(0,0),(1,289)]) fun h=>?_;(conv=>whnf);left;refine bS h (fun h=>?_) fun h=>?_
   ·cases h;cases k8;exact gE [(0,2)]
   (conv=>whnf);left;(conv=>whnf);refine cL h ZfE fun y_50 h=>?_;(conv=>whnf);left;refine bS h (fun h=>?_) fun h=>?_
   ·cases h;cases k8;exact gE [(0,418)]
   (conv=>whnf);refine jS h fun o16 ⟨at__51,c_52,c_53⟩=>jT [(0,sM (cInt IntKind.i64) kinds),(1,sM (cInt IntKind.u8) b),(6,.osw 0 3),(7,aI (at__51)),(8,aI i_40),(9,pp 1)] [(0,rT Zac.c l_41),(1,rF [aI y_48,aI (c_52),.str c_53])] 2 (fun h k16 e=>?_) fun h=>?_
   ·(conv=>whnf);left;(conv=>whnf);left;refine bS h (fun h=>?_) fun h=>?_
    ·(conv=>whnf);left;refine bS h (fun h=>?_) fun h=>?_
     ·cases h;cases k16;cases k8;exact gE [(0,642)]
     exact qE [(0,0),(1,1)]
    (conv=>whnf);left;refine bS h (fun h=>qE [(0,0),(1,1)]) fun h=>?_;(conv=>whnf);left;refine bS h (fun h=>?_) fun h=>?_
    ·(conv=>whnf);left;refine bS h (fun h=>?_) fun h=>?_
     ·cases h;cases k16;cases k8;exact gE [(0,770)]
     (conv=>whnf);left;refine bS h (fun h=>?_) fun h=>?_
     ·cases h;cases k16;cases k8;exact gE [(0,994)]
     (iterate 4 ((conv=>whnf);first|refine oL ?_|refine gX h fun h=>?_|refine aX ?_));(conv=>whnf);refine gS h fun h=>?_;(conv=>whnf);obtain ⟨hg,h⟩:=ZiJ h;refine ⟨_,Zgq rQ hg,?_⟩;exact qE [(0,0),(1,1)]
    exact qE [(0,0),(1,1)]
   (conv=>whnf);left;(conv=>whnf);refine aX ?_;(conv=>whnf);refine aX ?_;(conv=>whnf);refine gS h fun h=>?_;exact rE (n_38,at__51,(IntKind.wrap IntKind.i64 (i_40+(1:Int))),(l_41++((Zac.mk y_48 c_52 c_53)::[]))) [(0,98)] h
  exact qE [(0,0)]
 (conv=>whnf);left;refine bS h (fun h=>?_) fun h=>?_
 ·cases h;exact gE [(0,129)]
 exact qG [(0,0)]
theorem Zfl {body r} (h:Zbk F body=some r):FZ ml 12 [] [.str body] (.tup [.agg [aI r.1,aI r.2.1,aI r.2.2.1,aI r.2.2.2.1,aI r.2.2.2.2.1,aI r.2.2.2.2.2.1,aI r.2.2.2.2.2.2.1,.bool r.2.2.2.2.2.2.2.1,.osw 0 2,.str r.2.2.2.2.2.2.2.2.1],aI r.2.2.2.2.2.2.2.2.2.1]) [(0,rT Zaa.c r.2.2.2.2.2.2.2.2.2.2)]:=by
 refine fG Tryz.func12 ?_
 unfold Zbk at h
 (conv=>whnf);refine Or.inr (Zg9 8 2 _ rfl rfl ?_);(conv=>whnf);left;(conv=>whnf);refine jS h fun o7 vu=>jT [(2,pp 0)] [(0,rF [aI 0,aI 0,aI 0,aI 0,aI 0,aI 0,aI 0,.bool false,.osw 1 2,.str []]),(1,rT Zaa.c [])] 2 (fun h k7 e=>?_) fun h=>?_
 ·(conv=>whnf);left;(conv=>whnf);refine lI (fun n' x'=>Zaq F body n' x'.1 x'.2) (fun x'=>[(0,.str body),(2,pp 0),(4,.osw 1 1),(5,aI x'.1)]) (fun x'=>[(0,rF [aI 0,aI 0,aI 0,aI 0,aI 0,aI 0,aI 0,.bool false,.osw 2 2,.str []]),(1,rT (cInt IntKind.i64) x'.2),(2,rT Zaa.c [])]) 3 ((0:Int),((1:Int)::((1:Int)::((1:Int)::((1:Int)::((1:Int)::((1:Int)::((1:Int)::((1:Int)::((1:Int)::[])))))))))) [(0,32),(1,96),(2,33)] h ?_;rintro n_55 ⟨n_56,l_57⟩ h;dsimp only at h;rw [Zaq.eq_2] at h;(conv=>whnf);refine jN h fun t19_58=>jM [(0,.str body),(2,pp 0),(4,.osw 1 1),(5,aI n_56),(19,.bool t19_58)] [(0,rF [aI 0,aI 0,aI 0,aI 0,aI 0,aI 0,aI 0,.bool false,.osw 2 2,.str []]),(1,rT (cInt IntKind.i64) l_57),(2,rT Zaa.c [])] 3 (fun h=>qE [(0,0),(1,1),(2,2)]) fun h=>?_;(conv=>whnf);left;refine bS h (fun h=>?_) fun h=>?_
  ·(conv=>whnf);refine jS h fun o15 vu=>jT [(0,.str body),(2,pp 0),(4,.osw 1 1),(5,aI n_56)] [(0,rF [aI 0,aI 0,aI 0,aI 0,aI 0,aI 0,aI 0,.bool false,.osw 2 2,.str []]),(1,rT (cInt IntKind.i64) ((l_57++((1:Int)::[]))++((3:Int)::[]))),(2,rT Zaa.c [])] 3 (fun h k15 e=>?_) fun h=>?_
   ·(conv=>whnf);left;(conv=>whnf);left;(conv=>whnf);refine aX ?_;(conv=>whnf);refine aX ?_;(conv=>whnf);refine gS h fun h=>?_;(conv=>whnf);left;(conv=>whnf);refine aX ?_;(conv=>whnf);refine And.intro (Zal.append Zal.nil (Zal.map (fun _=>rfl))) ?_;(conv=>whnf);refine gS h fun h=>?_;(conv=>whnf);refine gX h fun h=>?_;(conv=>whnf);left;obtain ⟨y_77,hy,h⟩:=ZaL h;refine ⟨_,_,(Zc3 (cons2 (congrArg AV.sl rQ) (cons2 (congrArg AV.sl rQ) rfl)) (Zav (Zfo hy) rfl)),Or.inr ⟨[195,323],rfl,?_⟩⟩;(conv=>whnf);refine jN h fun t51_80=>jM [(0,.str body),(2,pp 0),(4,.osw 1 1),(5,aI n_56),(7,sM Zac.c y_77.2),(51,.bool t51_80)] [(0,rF [aI 0,aI 0,aI 0,aI 0,aI 0,aI 0,aI 0,.bool false,.osw 2 2,.str []]),(1,rT (cInt IntKind.i64) l_57),(2,rT Zaa.c [])] 3 (fun h=>?_) fun h=>?_
    ·(conv=>whnf);left;refine bS h (fun h=>?_) fun h=>?_
     ·(conv=>whnf);refine aX ?_;(conv=>whnf);refine oB h fun y_81 h=>?_;(conv=>whnf);refine bS h (fun h=>?_) fun h=>?_
      ·(conv=>whnf);refine aX ?_;(conv=>whnf);refine oB h fun y_82 h=>?_;exact qE [(0,0),(1,1),(2,2)]
      exact qE [(0,0),(1,1),(2,2)]
     exact qE [(0,0),(1,1),(2,2)]
    (conv=>whnf);left;refine bS h (fun h=>?_) fun h=>?_
    ·(conv=>whnf);refine aX ?_;(conv=>whnf);refine oB h fun y_83 h=>?_;(conv=>whnf);refine aX ?_;(conv=>whnf);refine oB h fun y_84 h=>?_;(conv=>whnf);refine aX ?_;(conv=>whnf);refine oB h fun y_85 h=>?_;(conv=>whnf);refine aX ?_;(conv=>whnf);refine oB h fun y_86 h=>?_;(conv=>whnf);refine aX ?_;(conv=>whnf);refine oB h fun y_87 h=>?_;(conv=>whnf);refine aX ?_;(conv=>whnf);refine oB h fun y_88 h=>?_;(conv=>whnf);refine aX ?_;(conv=>whnf);refine oB h fun y_89 h=>?_;(conv=>whnf);refine aX ?_;(conv=>whnf);refine oB h fun y_90 h=>?_;(conv=>whnf);refine gS h fun h=>?_;(conv=>whnf);refine oB h fun y_91 h=>?_;(conv=>whnf);refine Or.inr (Zfb 8 2 _ rfl rfl ?_);(conv=>whnf);refine Or.inr (Zg9 8 2 _ rfl rfl ?_);(conv=>whnf);refine aX ?_;(conv=>whnf);refine jN h fun l_96=>jM [(2,pp 0),(9,pp 1)] [(0,rF [aI 0,aI 0,aI 0,aI 0,aI 0,aI 0,aI 0,.bool false,.osw 2 2,.str []]),(1,rF [aI y_83.N,aI y_84.N,aI y_85.N,aI y_86.N,aI y_87.N,aI y_88.N,aI y_89.N,.bool (y_90.N==(1:Int)),.osw 3 2,.str y_91.S]),(2,rT Zaa.c []),(3,rT Zaa.c l_96)] 4 (fun h=>?_) fun h=>?_
     ·(conv=>whnf);left;(conv=>whnf);refine lI (fun n' x'=>ZaN F n_56 y_77 n' x'.1 x'.2) (fun x'=>[(2,pp 0),(5,aI n_56),(7,sM Zac.c y_77.2),(9,pp 1),(10,aI x'.1)]) (fun x'=>[(0,rF [aI 0,aI 0,aI 0,aI 0,aI 0,aI 0,aI 0,.bool false,.osw 2 2,.str []]),(1,rF [aI y_83.N,aI y_84.N,aI y_85.N,aI y_86.N,aI y_87.N,aI y_88.N,aI y_89.N,.bool (y_90.N==(1:Int)),.osw 3 2,.str y_91.S]),(2,rT Zaa.c []),(3,rT Zaa.c x'.2)]) 4 ((0:Int),[]) [(0,0),(1,1315),(2,2),(3,1283)] h ?_;rintro n_101 ⟨i_102,l_103⟩ h;dsimp only at h;rw [ZaN.eq_2] at h;(conv=>whnf);left;refine bS h (fun h=>?_) fun h=>?_
      ·(conv=>whnf);left;(conv=>whnf);refine gX h fun h=>?_;(conv=>whnf);refine oB h fun y_106 h=>?_;(conv=>whnf);refine gX h fun h=>?_;(conv=>whnf);refine oB h fun y_107 h=>?_;(conv=>whnf);left;(conv=>whnf);left;(conv=>whnf);refine aX ?_;(conv=>whnf);refine aX ?_;(conv=>whnf);refine gS h fun h=>?_;(conv=>whnf);left;(conv=>whnf);refine aX ?_;exact rE (n_101,(IntKind.wrap IntKind.i64 (i_102+(1:Int))),(l_103++((Zaa.mk y_106.N y_107.S)::[]))) [(0,0),(1,1),(2,2),(3,676)] h
      exact qE [(0,0),(1,1),(2,2),(3,3)]
     cases h;cases k15;cases k7;exact gI [(0,3)]
    (conv=>whnf);left;(conv=>whnf);refine aX ?_;(conv=>whnf);refine aX ?_;(conv=>whnf);refine gS h fun h=>?_;(conv=>whnf);left;(conv=>whnf);refine aX ?_;(conv=>whnf);refine And.intro (Zal.append (Zal.map (fun _=>rfl)) (Zal.cons rfl Zal.nil)) ?_;(conv=>whnf);refine gS h fun h=>?_;cases h;cases e;exact eE [(0,0),(1,195),(2,2)]
   exact rE (n_55,(IntKind.wrap IntKind.i64 (n_56+(1:Int))),((l_57++((1:Int)::[]))++((3:Int)::[]))) [(0,0),(1,1),(2,2)] h
  exact qE [(0,0),(1,2)]
 refine Or.inr (Zfb 8 2 _ rfl rfl ?_);cases h;exact gE [(0,2)]
theorem ZbD {n l r} (h:ZaW F n l=some r):FZ ml 51 [(0,rT (cInt IntKind.u8) l)] [.osw 0 1,AV.int IntKind.u64 n] (.osw 1 1) [(1,rT (cInt IntKind.u8) r)]:=by
 refine fG Tryz.func51 ?_
 unfold ZaW at h
 (conv=>whnf);refine jN h fun ⟨n_0,l_1⟩=>jM [(0,.osw 1 1),(1,AV.int IntKind.u64 n_0)] [(1,rT (cInt IntKind.u8) l_1)] 2 (fun h=>?_) fun h=>?_
 ·(conv=>whnf);left;(conv=>whnf);refine lI (fun n' x'=>ZaE F n' x'.1 x'.2) (fun x'=>[(0,.osw 1 1),(1,AV.int IntKind.u64 x'.1)]) (fun x'=>[(1,rT (cInt IntKind.u8) x'.2)]) 2 (n,l) [(1,0)] h ?_;rintro n_2 ⟨n_3,l_4⟩ h;dsimp only at h;rw [ZaE.eq_2] at h;(conv=>whnf);left;refine bS h (fun h=>?_) fun h=>?_
  ·(iterate 5 ((conv=>whnf);first|refine oL ?_|refine aX ?_));(conv=>whnf);refine gS h fun h=>?_;(conv=>whnf);refine aX ?_;exact rE (n_2,(IntKind.wrap IntKind.u64 (@Int.tdiv n_3 (128:Int))),(l_4++((IntKind.wrap IntKind.u8 (IntKind.wrap IntKind.u64 ((128:Int)+(@Int.tmod n_3 (128:Int)))))::[]))) [(0,0),(1,258)] h
  exact qE [(0,0),(1,1)]
 (conv=>whnf);left;(conv=>whnf);refine aX ?_;(conv=>whnf);refine aX ?_;(conv=>whnf);refine gS h fun h=>?_;cases h;exact gE [(0,0),(1,130)]
end Go.T
