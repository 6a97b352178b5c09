/-
  ClassConsts: every run ends in true; so does the model's call.
-/
import Derived.Test.YtiecclkgjcnaoaaAhConsts0
import Derived.Test.YtiecclkgjcnaoaaAhConsts1
import Derived.Test.YtiecclkgjcnaoaaAhConsts2
import Derived.Test.YtiecclkgjcnaoaaAhConsts3
import Derived.Test.YtiecclkgjcnaoaaAhConsts4
import Derived.Test.YtiecclkgjcnaoaaAhConsts5
import Derived.Test.YtiecclkgjcnaoaaAhConsts6
import Derived.Test.YtiecclkgjcnaoaaAhConsts7
import Derived.Test.YtiecclkgjcnaoaaAhConsts8
import Derived.Test.YtiecclkgjcnaoaaAhConsts9
import Derived.Test.YtiecclkgjcnaoaaAhConsts10
import Derived.Test.YtiecclkgjcnaoaaAhConsts11
import Derived.Test.YtiecclkgjcnaoaaAhConsts12
import Derived.Test.YtiecclkgjcnaoaaAhConsts13
import Derived.Test.YtiecclkgjcnaoaaAhConsts14
import Derived.Test.YtiecclkgjcnaoaaAhConsts15
namespace Go.Proofs.Ytiecclkgjcnaoaa.Ae
open Go.AE Go.RowKit
set_option maxRecDepth 1000000
set_option linter.unusedVariables false
theorem int_all (i : Nat) (h : i < 372) : intRun i = true := by
  by_cases h0 : i < 4
  · exact span_spec int_0 i (by omega) (by omega)
  by_cases h4 : i < 8
  · exact span_spec int_4 i (by omega) (by omega)
  by_cases h8 : i < 12
  · exact span_spec int_8 i (by omega) (by omega)
  by_cases h12 : i < 16
  · exact span_spec int_12 i (by omega) (by omega)
  by_cases h16 : i < 20
  · exact span_spec int_16 i (by omega) (by omega)
  by_cases h20 : i < 24
  · exact span_spec int_20 i (by omega) (by omega)
  by_cases h24 : i < 28
  · exact span_spec int_24 i (by omega) (by omega)
  by_cases h28 : i < 32
  · exact span_spec int_28 i (by omega) (by omega)
  by_cases h32 : i < 36
  · exact span_spec int_32 i (by omega) (by omega)
  by_cases h36 : i < 40
  · exact span_spec int_36 i (by omega) (by omega)
  by_cases h40 : i < 44
  · exact span_spec int_40 i (by omega) (by omega)
  by_cases h44 : i < 48
  · exact span_spec int_44 i (by omega) (by omega)
  by_cases h48 : i < 52
  · exact span_spec int_48 i (by omega) (by omega)
  by_cases h52 : i < 56
  · exact span_spec int_52 i (by omega) (by omega)
  by_cases h56 : i < 60
  · exact span_spec int_56 i (by omega) (by omega)
  by_cases h60 : i < 64
  · exact span_spec int_60 i (by omega) (by omega)
  by_cases h64 : i < 68
  · exact span_spec int_64 i (by omega) (by omega)
  by_cases h68 : i < 72
  · exact span_spec int_68 i (by omega) (by omega)
  by_cases h72 : i < 76
  · exact span_spec int_72 i (by omega) (by omega)
  by_cases h76 : i < 80
  · exact span_spec int_76 i (by omega) (by omega)
  by_cases h80 : i < 84
  · exact span_spec int_80 i (by omega) (by omega)
  by_cases h84 : i < 88
  · exact span_spec int_84 i (by omega) (by omega)
  by_cases h88 : i < 92
  · exact span_spec int_88 i (by omega) (by omega)
  by_cases h92 : i < 96
  · exact span_spec int_92 i (by omega) (by omega)
  by_cases h96 : i < 100
  · exact span_spec int_96 i (by omega) (by omega)
  by_cases h100 : i < 104
  · exact span_spec int_100 i (by omega) (by omega)
  by_cases h104 : i < 108
  · exact span_spec int_104 i (by omega) (by omega)
  by_cases h108 : i < 112
  · exact span_spec int_108 i (by omega) (by omega)
  by_cases h112 : i < 116
  · exact span_spec int_112 i (by omega) (by omega)
  by_cases h116 : i < 120
  · exact span_spec int_116 i (by omega) (by omega)
  by_cases h120 : i < 124
  · exact span_spec int_120 i (by omega) (by omega)
  by_cases h124 : i < 128
  · exact span_spec int_124 i (by omega) (by omega)
  by_cases h128 : i < 132
  · exact span_spec int_128 i (by omega) (by omega)
  by_cases h132 : i < 136
  · exact span_spec int_132 i (by omega) (by omega)
  by_cases h136 : i < 140
  · exact span_spec int_136 i (by omega) (by omega)
  by_cases h140 : i < 144
  · exact span_spec int_140 i (by omega) (by omega)
  by_cases h144 : i < 148
  · exact span_spec int_144 i (by omega) (by omega)
  by_cases h148 : i < 152
  · exact span_spec int_148 i (by omega) (by omega)
  by_cases h152 : i < 156
  · exact span_spec int_152 i (by omega) (by omega)
  by_cases h156 : i < 160
  · exact span_spec int_156 i (by omega) (by omega)
  by_cases h160 : i < 164
  · exact span_spec int_160 i (by omega) (by omega)
  by_cases h164 : i < 168
  · exact span_spec int_164 i (by omega) (by omega)
  by_cases h168 : i < 172
  · exact span_spec int_168 i (by omega) (by omega)
  by_cases h172 : i < 176
  · exact span_spec int_172 i (by omega) (by omega)
  by_cases h176 : i < 180
  · exact span_spec int_176 i (by omega) (by omega)
  by_cases h180 : i < 184
  · exact span_spec int_180 i (by omega) (by omega)
  by_cases h184 : i < 188
  · exact span_spec int_184 i (by omega) (by omega)
  by_cases h188 : i < 192
  · exact span_spec int_188 i (by omega) (by omega)
  by_cases h192 : i < 196
  · exact span_spec int_192 i (by omega) (by omega)
  by_cases h196 : i < 200
  · exact span_spec int_196 i (by omega) (by omega)
  by_cases h200 : i < 204
  · exact span_spec int_200 i (by omega) (by omega)
  by_cases h204 : i < 208
  · exact span_spec int_204 i (by omega) (by omega)
  by_cases h208 : i < 212
  · exact span_spec int_208 i (by omega) (by omega)
  by_cases h212 : i < 216
  · exact span_spec int_212 i (by omega) (by omega)
  by_cases h216 : i < 220
  · exact span_spec int_216 i (by omega) (by omega)
  by_cases h220 : i < 224
  · exact span_spec int_220 i (by omega) (by omega)
  by_cases h224 : i < 228
  · exact span_spec int_224 i (by omega) (by omega)
  by_cases h228 : i < 232
  · exact span_spec int_228 i (by omega) (by omega)
  by_cases h232 : i < 236
  · exact span_spec int_232 i (by omega) (by omega)
  by_cases h236 : i < 240
  · exact span_spec int_236 i (by omega) (by omega)
  by_cases h240 : i < 244
  · exact span_spec int_240 i (by omega) (by omega)
  by_cases h244 : i < 248
  · exact span_spec int_244 i (by omega) (by omega)
  by_cases h248 : i < 252
  · exact span_spec int_248 i (by omega) (by omega)
  by_cases h252 : i < 256
  · exact span_spec int_252 i (by omega) (by omega)
  by_cases h256 : i < 260
  · exact span_spec int_256 i (by omega) (by omega)
  by_cases h260 : i < 264
  · exact span_spec int_260 i (by omega) (by omega)
  by_cases h264 : i < 268
  · exact span_spec int_264 i (by omega) (by omega)
  by_cases h268 : i < 272
  · exact span_spec int_268 i (by omega) (by omega)
  by_cases h272 : i < 276
  · exact span_spec int_272 i (by omega) (by omega)
  by_cases h276 : i < 280
  · exact span_spec int_276 i (by omega) (by omega)
  by_cases h280 : i < 284
  · exact span_spec int_280 i (by omega) (by omega)
  by_cases h284 : i < 288
  · exact span_spec int_284 i (by omega) (by omega)
  by_cases h288 : i < 292
  · exact span_spec int_288 i (by omega) (by omega)
  by_cases h292 : i < 296
  · exact span_spec int_292 i (by omega) (by omega)
  by_cases h296 : i < 300
  · exact span_spec int_296 i (by omega) (by omega)
  by_cases h300 : i < 304
  · exact span_spec int_300 i (by omega) (by omega)
  by_cases h304 : i < 308
  · exact span_spec int_304 i (by omega) (by omega)
  by_cases h308 : i < 312
  · exact span_spec int_308 i (by omega) (by omega)
  by_cases h312 : i < 316
  · exact span_spec int_312 i (by omega) (by omega)
  by_cases h316 : i < 320
  · exact span_spec int_316 i (by omega) (by omega)
  by_cases h320 : i < 324
  · exact span_spec int_320 i (by omega) (by omega)
  by_cases h324 : i < 328
  · exact span_spec int_324 i (by omega) (by omega)
  by_cases h328 : i < 332
  · exact span_spec int_328 i (by omega) (by omega)
  by_cases h332 : i < 336
  · exact span_spec int_332 i (by omega) (by omega)
  by_cases h336 : i < 340
  · exact span_spec int_336 i (by omega) (by omega)
  by_cases h340 : i < 344
  · exact span_spec int_340 i (by omega) (by omega)
  by_cases h344 : i < 348
  · exact span_spec int_344 i (by omega) (by omega)
  by_cases h348 : i < 352
  · exact span_spec int_348 i (by omega) (by omega)
  by_cases h352 : i < 356
  · exact span_spec int_352 i (by omega) (by omega)
  by_cases h356 : i < 360
  · exact span_spec int_356 i (by omega) (by omega)
  by_cases h360 : i < 364
  · exact span_spec int_360 i (by omega) (by omega)
  by_cases h364 : i < 368
  · exact span_spec int_364 i (by omega) (by omega)
  exact span_spec int_368 i (by omega) (by omega)
theorem cplx_all (i : Nat) (h : i < 597) : cplxRun i = true := by
  by_cases h0 : i < 4
  · exact span_spec cplx_0 i (by omega) (by omega)
  by_cases h4 : i < 8
  · exact span_spec cplx_4 i (by omega) (by omega)
  by_cases h8 : i < 12
  · exact span_spec cplx_8 i (by omega) (by omega)
  by_cases h12 : i < 16
  · exact span_spec cplx_12 i (by omega) (by omega)
  by_cases h16 : i < 20
  · exact span_spec cplx_16 i (by omega) (by omega)
  by_cases h20 : i < 24
  · exact span_spec cplx_20 i (by omega) (by omega)
  by_cases h24 : i < 28
  · exact span_spec cplx_24 i (by omega) (by omega)
  by_cases h28 : i < 32
  · exact span_spec cplx_28 i (by omega) (by omega)
  by_cases h32 : i < 36
  · exact span_spec cplx_32 i (by omega) (by omega)
  by_cases h36 : i < 40
  · exact span_spec cplx_36 i (by omega) (by omega)
  by_cases h40 : i < 44
  · exact span_spec cplx_40 i (by omega) (by omega)
  by_cases h44 : i < 48
  · exact span_spec cplx_44 i (by omega) (by omega)
  by_cases h48 : i < 52
  · exact span_spec cplx_48 i (by omega) (by omega)
  by_cases h52 : i < 56
  · exact span_spec cplx_52 i (by omega) (by omega)
  by_cases h56 : i < 60
  · exact span_spec cplx_56 i (by omega) (by omega)
  by_cases h60 : i < 64
  · exact span_spec cplx_60 i (by omega) (by omega)
  by_cases h64 : i < 68
  · exact span_spec cplx_64 i (by omega) (by omega)
  by_cases h68 : i < 72
  · exact span_spec cplx_68 i (by omega) (by omega)
  by_cases h72 : i < 76
  · exact span_spec cplx_72 i (by omega) (by omega)
  by_cases h76 : i < 80
  · exact span_spec cplx_76 i (by omega) (by omega)
  by_cases h80 : i < 84
  · exact span_spec cplx_80 i (by omega) (by omega)
  by_cases h84 : i < 88
  · exact span_spec cplx_84 i (by omega) (by omega)
  by_cases h88 : i < 92
  · exact span_spec cplx_88 i (by omega) (by omega)
  by_cases h92 : i < 96
  · exact span_spec cplx_92 i (by omega) (by omega)
  by_cases h96 : i < 100
  · exact span_spec cplx_96 i (by omega) (by omega)
  by_cases h100 : i < 104
  · exact span_spec cplx_100 i (by omega) (by omega)
  by_cases h104 : i < 108
  · exact span_spec cplx_104 i (by omega) (by omega)
  by_cases h108 : i < 112
  · exact span_spec cplx_108 i (by omega) (by omega)
  by_cases h112 : i < 116
  · exact span_spec cplx_112 i (by omega) (by omega)
  by_cases h116 : i < 120
  · exact span_spec cplx_116 i (by omega) (by omega)
  by_cases h120 : i < 124
  · exact span_spec cplx_120 i (by omega) (by omega)
  by_cases h124 : i < 128
  · exact span_spec cplx_124 i (by omega) (by omega)
  by_cases h128 : i < 132
  · exact span_spec cplx_128 i (by omega) (by omega)
  by_cases h132 : i < 136
  · exact span_spec cplx_132 i (by omega) (by omega)
  by_cases h136 : i < 140
  · exact span_spec cplx_136 i (by omega) (by omega)
  by_cases h140 : i < 144
  · exact span_spec cplx_140 i (by omega) (by omega)
  by_cases h144 : i < 148
  · exact span_spec cplx_144 i (by omega) (by omega)
  by_cases h148 : i < 152
  · exact span_spec cplx_148 i (by omega) (by omega)
  by_cases h152 : i < 156
  · exact span_spec cplx_152 i (by omega) (by omega)
  by_cases h156 : i < 160
  · exact span_spec cplx_156 i (by omega) (by omega)
  by_cases h160 : i < 164
  · exact span_spec cplx_160 i (by omega) (by omega)
  by_cases h164 : i < 168
  · exact span_spec cplx_164 i (by omega) (by omega)
  by_cases h168 : i < 172
  · exact span_spec cplx_168 i (by omega) (by omega)
  by_cases h172 : i < 176
  · exact span_spec cplx_172 i (by omega) (by omega)
  by_cases h176 : i < 180
  · exact span_spec cplx_176 i (by omega) (by omega)
  by_cases h180 : i < 184
  · exact span_spec cplx_180 i (by omega) (by omega)
  by_cases h184 : i < 188
  · exact span_spec cplx_184 i (by omega) (by omega)
  by_cases h188 : i < 192
  · exact span_spec cplx_188 i (by omega) (by omega)
  by_cases h192 : i < 196
  · exact span_spec cplx_192 i (by omega) (by omega)
  by_cases h196 : i < 200
  · exact span_spec cplx_196 i (by omega) (by omega)
  by_cases h200 : i < 204
  · exact span_spec cplx_200 i (by omega) (by omega)
  by_cases h204 : i < 208
  · exact span_spec cplx_204 i (by omega) (by omega)
  by_cases h208 : i < 212
  · exact span_spec cplx_208 i (by omega) (by omega)
  by_cases h212 : i < 216
  · exact span_spec cplx_212 i (by omega) (by omega)
  by_cases h216 : i < 220
  · exact span_spec cplx_216 i (by omega) (by omega)
  by_cases h220 : i < 224
  · exact span_spec cplx_220 i (by omega) (by omega)
  by_cases h224 : i < 228
  · exact span_spec cplx_224 i (by omega) (by omega)
  by_cases h228 : i < 232
  · exact span_spec cplx_228 i (by omega) (by omega)
  by_cases h232 : i < 236
  · exact span_spec cplx_232 i (by omega) (by omega)
  by_cases h236 : i < 240
  · exact span_spec cplx_236 i (by omega) (by omega)
  by_cases h240 : i < 244
  · exact span_spec cplx_240 i (by omega) (by omega)
  by_cases h244 : i < 248
  · exact span_spec cplx_244 i (by omega) (by omega)
  by_cases h248 : i < 252
  · exact span_spec cplx_248 i (by omega) (by omega)
  by_cases h252 : i < 256
  · exact span_spec cplx_252 i (by omega) (by omega)
  by_cases h256 : i < 260
  · exact span_spec cplx_256 i (by omega) (by omega)
  by_cases h260 : i < 264
  · exact span_spec cplx_260 i (by omega) (by omega)
  by_cases h264 : i < 268
  · exact span_spec cplx_264 i (by omega) (by omega)
  by_cases h268 : i < 272
  · exact span_spec cplx_268 i (by omega) (by omega)
  by_cases h272 : i < 276
  · exact span_spec cplx_272 i (by omega) (by omega)
  by_cases h276 : i < 280
  · exact span_spec cplx_276 i (by omega) (by omega)
  by_cases h280 : i < 284
  · exact span_spec cplx_280 i (by omega) (by omega)
  by_cases h284 : i < 288
  · exact span_spec cplx_284 i (by omega) (by omega)
  by_cases h288 : i < 292
  · exact span_spec cplx_288 i (by omega) (by omega)
  by_cases h292 : i < 296
  · exact span_spec cplx_292 i (by omega) (by omega)
  by_cases h296 : i < 300
  · exact span_spec cplx_296 i (by omega) (by omega)
  by_cases h300 : i < 304
  · exact span_spec cplx_300 i (by omega) (by omega)
  by_cases h304 : i < 308
  · exact span_spec cplx_304 i (by omega) (by omega)
  by_cases h308 : i < 312
  · exact span_spec cplx_308 i (by omega) (by omega)
  by_cases h312 : i < 316
  · exact span_spec cplx_312 i (by omega) (by omega)
  by_cases h316 : i < 320
  · exact span_spec cplx_316 i (by omega) (by omega)
  by_cases h320 : i < 324
  · exact span_spec cplx_320 i (by omega) (by omega)
  by_cases h324 : i < 328
  · exact span_spec cplx_324 i (by omega) (by omega)
  by_cases h328 : i < 332
  · exact span_spec cplx_328 i (by omega) (by omega)
  by_cases h332 : i < 336
  · exact span_spec cplx_332 i (by omega) (by omega)
  by_cases h336 : i < 340
  · exact span_spec cplx_336 i (by omega) (by omega)
  by_cases h340 : i < 344
  · exact span_spec cplx_340 i (by omega) (by omega)
  by_cases h344 : i < 348
  · exact span_spec cplx_344 i (by omega) (by omega)
  by_cases h348 : i < 352
  · exact span_spec cplx_348 i (by omega) (by omega)
  by_cases h352 : i < 356
  · exact span_spec cplx_352 i (by omega) (by omega)
  by_cases h356 : i < 360
  · exact span_spec cplx_356 i (by omega) (by omega)
  by_cases h360 : i < 364
  · exact span_spec cplx_360 i (by omega) (by omega)
  by_cases h364 : i < 368
  · exact span_spec cplx_364 i (by omega) (by omega)
  by_cases h368 : i < 372
  · exact span_spec cplx_368 i (by omega) (by omega)
  by_cases h372 : i < 376
  · exact span_spec cplx_372 i (by omega) (by omega)
  by_cases h376 : i < 380
  · exact span_spec cplx_376 i (by omega) (by omega)
  by_cases h380 : i < 384
  · exact span_spec cplx_380 i (by omega) (by omega)
  by_cases h384 : i < 388
  · exact span_spec cplx_384 i (by omega) (by omega)
  by_cases h388 : i < 392
  · exact span_spec cplx_388 i (by omega) (by omega)
  by_cases h392 : i < 396
  · exact span_spec cplx_392 i (by omega) (by omega)
  by_cases h396 : i < 400
  · exact span_spec cplx_396 i (by omega) (by omega)
  by_cases h400 : i < 404
  · exact span_spec cplx_400 i (by omega) (by omega)
  by_cases h404 : i < 408
  · exact span_spec cplx_404 i (by omega) (by omega)
  by_cases h408 : i < 412
  · exact span_spec cplx_408 i (by omega) (by omega)
  by_cases h412 : i < 416
  · exact span_spec cplx_412 i (by omega) (by omega)
  by_cases h416 : i < 420
  · exact span_spec cplx_416 i (by omega) (by omega)
  by_cases h420 : i < 424
  · exact span_spec cplx_420 i (by omega) (by omega)
  by_cases h424 : i < 428
  · exact span_spec cplx_424 i (by omega) (by omega)
  by_cases h428 : i < 432
  · exact span_spec cplx_428 i (by omega) (by omega)
  by_cases h432 : i < 436
  · exact span_spec cplx_432 i (by omega) (by omega)
  by_cases h436 : i < 440
  · exact span_spec cplx_436 i (by omega) (by omega)
  by_cases h440 : i < 444
  · exact span_spec cplx_440 i (by omega) (by omega)
  by_cases h444 : i < 448
  · exact span_spec cplx_444 i (by omega) (by omega)
  by_cases h448 : i < 452
  · exact span_spec cplx_448 i (by omega) (by omega)
  by_cases h452 : i < 456
  · exact span_spec cplx_452 i (by omega) (by omega)
  by_cases h456 : i < 460
  · exact span_spec cplx_456 i (by omega) (by omega)
  by_cases h460 : i < 464
  · exact span_spec cplx_460 i (by omega) (by omega)
  by_cases h464 : i < 468
  · exact span_spec cplx_464 i (by omega) (by omega)
  by_cases h468 : i < 472
  · exact span_spec cplx_468 i (by omega) (by omega)
  by_cases h472 : i < 476
  · exact span_spec cplx_472 i (by omega) (by omega)
  by_cases h476 : i < 480
  · exact span_spec cplx_476 i (by omega) (by omega)
  by_cases h480 : i < 484
  · exact span_spec cplx_480 i (by omega) (by omega)
  by_cases h484 : i < 488
  · exact span_spec cplx_484 i (by omega) (by omega)
  by_cases h488 : i < 492
  · exact span_spec cplx_488 i (by omega) (by omega)
  by_cases h492 : i < 496
  · exact span_spec cplx_492 i (by omega) (by omega)
  by_cases h496 : i < 500
  · exact span_spec cplx_496 i (by omega) (by omega)
  by_cases h500 : i < 504
  · exact span_spec cplx_500 i (by omega) (by omega)
  by_cases h504 : i < 508
  · exact span_spec cplx_504 i (by omega) (by omega)
  by_cases h508 : i < 512
  · exact span_spec cplx_508 i (by omega) (by omega)
  by_cases h512 : i < 516
  · exact span_spec cplx_512 i (by omega) (by omega)
  by_cases h516 : i < 520
  · exact span_spec cplx_516 i (by omega) (by omega)
  by_cases h520 : i < 524
  · exact span_spec cplx_520 i (by omega) (by omega)
  by_cases h524 : i < 528
  · exact span_spec cplx_524 i (by omega) (by omega)
  by_cases h528 : i < 532
  · exact span_spec cplx_528 i (by omega) (by omega)
  by_cases h532 : i < 536
  · exact span_spec cplx_532 i (by omega) (by omega)
  by_cases h536 : i < 540
  · exact span_spec cplx_536 i (by omega) (by omega)
  by_cases h540 : i < 544
  · exact span_spec cplx_540 i (by omega) (by omega)
  by_cases h544 : i < 548
  · exact span_spec cplx_544 i (by omega) (by omega)
  by_cases h548 : i < 552
  · exact span_spec cplx_548 i (by omega) (by omega)
  by_cases h552 : i < 556
  · exact span_spec cplx_552 i (by omega) (by omega)
  by_cases h556 : i < 560
  · exact span_spec cplx_556 i (by omega) (by omega)
  by_cases h560 : i < 564
  · exact span_spec cplx_560 i (by omega) (by omega)
  by_cases h564 : i < 568
  · exact span_spec cplx_564 i (by omega) (by omega)
  by_cases h568 : i < 572
  · exact span_spec cplx_568 i (by omega) (by omega)
  by_cases h572 : i < 576
  · exact span_spec cplx_572 i (by omega) (by omega)
  by_cases h576 : i < 580
  · exact span_spec cplx_576 i (by omega) (by omega)
  by_cases h580 : i < 584
  · exact span_spec cplx_580 i (by omega) (by omega)
  by_cases h584 : i < 588
  · exact span_spec cplx_584 i (by omega) (by omega)
  by_cases h588 : i < 592
  · exact span_spec cplx_588 i (by omega) (by omega)
  by_cases h592 : i < 596
  · exact span_spec cplx_592 i (by omega) (by omega)
  exact span_spec cplx_596 i (by omega) (by omega)
/-- The bits of x. -/
@[reducible] def rhoX (x : Nat) : Rho := ⟨fun _ => 0, fun i => x.testBit i, fun _ => [], fun _ => Nat.zero_le _⟩
theorem shape_val (x : Nat) : ∀ (n i : Nat), 2 ^ n ≤ x / 2 ^ i → x / 2 ^ i < 2 ^ (n + 1) → @natOf (rhoX x) (shapeF i n) = x / 2 ^ i
  | 0, i, h1, h2 => by
    have : x / 2 ^ i = 1 := by
      simp only [Nat.pow_zero, Nat.zero_add, Nat.pow_one] at h1 h2
      omega
    rw [this]
    rfl
  | n + 1, i, h1, h2 => by
    have e : x / 2 ^ (i + 1) = x / 2 ^ i / 2 := by rw [Nat.pow_succ, Nat.div_div_eq_div_mul]
    have h3 : 2 ^ n ≤ x / 2 ^ (i + 1) := by
      rw [e]
      rw [Nat.pow_succ] at h1
      omega
    have h4 : x / 2 ^ (i + 1) < 2 ^ (n + 1) := by
      rw [e]
      rw [Nat.pow_succ] at h2
      omega
    have h := shape_val x n (i + 1) h3 h4
    have hb : @bval (rhoX x) (.var i) = x / 2 ^ i % 2 := by
      show (bif x.testBit i then 1 else 0) = _
      rw [Nat.testBit_eq_decide_div_mod_eq]
      have : x / 2 ^ i % 2 = 0 ∨ x / 2 ^ i % 2 = 1 := by omega
      rcases this with e | e <;> simp [e]
    show @bval (rhoX x) (.var i) + 2 * @natOf (rhoX x) (shapeF (i + 1) n) = x / 2 ^ i
    rw [h, hb, e]
    omega
theorem some_all {k : Nat} {n : AV} (h : someRun k n = true) (s : Nat) (hs : s < 3) : constsRun k n s = true := by
  simp only [someRun, Bool.and_eq_true] at h
  match s, hs with
  | 0, _ => exact h.1
  | 1, _ => exact h.2.1
  | 2, _ => exact h.2.2
/-- A run tells of the model's call. -/
theorem consts_top (ρ : Rho) {n0 n2 : Nat} (h0 : n0 < 256) (h2 : n2 < 256) {x : AV} {z : Int} (h : constsRun (n0 % 5) x (n2 % 3) = true) (hx : @VRel ρ (fun _ _ => none) x (.int .i64 z)) (w : World) :
    Calls Try.prog 3 #[.int .u8 (Int.ofNat n0), .int .i64 z, .int .u8 (Int.ofNat n2)] w fun e w' => e = .returned (.bool true) ∧ Below w.heap.size w w' := by
  letI : Rho := ρ
  exact R.top envKnown h (LRel.cons (.rest _ h0 rfl) (LRel.cons hx (LRel.cons (.rest _ h2 rfl) (LRel.nil _)))) w
theorem int_in {a : Int} (w : (Lit.int .i64 a).wf = true) : -9223372036854775808 ≤ a ∧ a ≤ 9223372036854775807 := by
  simp only [Lit.wf, Bool.and_eq_true, decide_eq_true_eq] at w
  have h1 : IntKind.i64.min = -9223372036854775808 := by decide
  have h2 : IntKind.i64.max = 9223372036854775807 := by decide
  rw [h1, h2] at w
  exact w
theorem log_in {x : Nat} (h1 : 2 ≤ x) (h2 : x < 9223372036854775808) : 1 ≤ x.log2 ∧ x.log2 ≤ 62 := by
  have a := Nat.log2_self_le (n := x) (by omega)
  have b := Nat.lt_log2_self (n := x)
  constructor
  · rcases Nat.eq_zero_or_pos x.log2 with h | h
    · rw [h] at b
      simp at b
      omega
    · exact h
  · have hlt : 2 ^ x.log2 < 2 ^ 63 := Nat.lt_of_le_of_lt a (by exact h2)
    have := (Nat.pow_lt_pow_iff_right (by decide : 1 < 2)).1 hlt
    omega
theorem shape_log {x : Nat} (h1 : 2 ≤ x) : @natOf (rhoX x) (shapeF 0 (Nat.succ (x.log2 - 1))) = x := by
  have a := Nat.log2_self_le (n := x) (by omega)
  have b := Nat.lt_log2_self (n := x)
  have hp : 1 ≤ x.log2 := by
    rcases Nat.eq_zero_or_pos x.log2 with h | h
    · rw [h] at b
      simp at b
      omega
    · exact h
  have e : Nat.succ (x.log2 - 1) = x.log2 := by omega
  rw [e]
  have := shape_val x x.log2 0 (by simpa using a) (by simpa using b)
  simpa using this
theorem index3 {p q s : Nat} (hq : q < 2) (hs : s < 3) : Nat.mod (Nat.div (p * 6 + q * 3 + s) 3) 2 = q ∧ Nat.div (p * 6 + q * 3 + s) 6 = p ∧ Nat.mod (p * 6 + q * 3 + s) 3 = s := by
  refine ⟨?_, ?_, ?_⟩
  · show (p * 6 + q * 3 + s) / 3 % 2 = q
    omega
  · show (p * 6 + q * 3 + s) / 6 = p
    omega
  · show (p * 6 + q * 3 + s) % 3 = s
    omega
theorem int_run {x s : Nat} (h1 : 2 ≤ x) (h2 : x < 9223372036854775808) (hs : s < 3) :
    constsRun 0 (.bits .i64 (shapeF 0 (Nat.succ (x.log2 - 1)))) s = true ∧ constsRun 0 (.nbits .i64 (shapeF 0 (Nat.succ (x.log2 - 1)))) s = true := by
  obtain ⟨a, b⟩ := log_in h1 h2
  constructor
  · have h := int_all ((x.log2 - 1) * 6 + 0 * 3 + s) (by omega)
    obtain ⟨e1, e2, e3⟩ := index3 (p := x.log2 - 1) (q := 0) (s := s) (by omega) hs
    unfold intRun at h
    rw [e1, e2, e3] at h
    exact h
  · have h := int_all ((x.log2 - 1) * 6 + 1 * 3 + s) (by omega)
    obtain ⟨e1, e2, e3⟩ := index3 (p := x.log2 - 1) (q := 1) (s := s) (by omega) hs
    unfold intRun at h
    rw [e1, e2, e3] at h
    exact h
theorem vInt (ρ : Rho) (z : Int) : @VRel ρ (fun _ _ => none) (.int .i64 z) (.int .i64 z) := @VRel.int ρ _ _ _
theorem vBits (x : Nat) (h1 : 2 ≤ x) : @VRel (rhoX x) (fun _ _ => none) (.bits .i64 (shapeF 0 (Nat.succ (x.log2 - 1)))) (.int .i64 (Int.ofNat x)) := by
  have h := @VRel.bits (rhoX x) (fun _ _ => none) .i64 (shapeF 0 (Nat.succ (x.log2 - 1)))
  rw [shape_log h1] at h
  exact h
theorem vNbits (x : Nat) (h1 : 2 ≤ x) : @VRel (rhoX x) (fun _ _ => none) (.nbits .i64 (shapeF 0 (Nat.succ (x.log2 - 1)))) (.int .i64 (Int.negSucc x)) := by
  have h := @VRel.nbits (rhoX x) (fun _ _ => none) .i64 (shapeF 0 (Nat.succ (x.log2 - 1)))
  rw [shape_log h1] at h
  exact h
theorem leaves_val (z : Int) : ∃ j, j < 199 ∧ Int.tmod z (Int.ofNat 100) = leaves100 j := by
  have h1 : Int.tmod z 100 < 100 := Int.tmod_lt_of_pos z (by decide)
  have h2 : -100 < Int.tmod z 100 := by
    have := Int.tmod_lt_of_pos (-z) (b := 100) (by decide)
    rw [Int.neg_tmod] at this
    omega
  refine ⟨(Int.tmod z 100 + 99).toNat, by omega, ?_⟩
  show Int.tmod z 100 = _
  unfold leaves100
  rw [ble_dec]
  by_cases hc : 99 ≤ (Int.tmod z 100 + 99).toNat
  · simp only [hc, decide_true, cond_true, Int.ofNat_eq_natCast]
    show Int.tmod z 100 = (((Int.tmod z 100 + 99).toNat - 99 : Nat) : Int)
    omega
  · simp only [hc, decide_false, cond_false]
    show Int.tmod z 100 = Int.negSucc (98 - (Int.tmod z 100 + 99).toNat)
    omega
theorem classConsts (a0 a1 a2 : Int) (w0 : (Lit.int .u8 a0).wf = true) (w1 : (Lit.int .i64 a1).wf = true) (w2 : (Lit.int .u8 a2).wf = true) (w : World) :
    Calls Try.prog 3 #[.int .u8 a0, .int .i64 a1, .int .u8 a2] w fun e w' => e = .returned (.bool true) ∧ Below w.heap.size w w' := by
  obtain ⟨n0, hn0, rfl⟩ := byte_of w0
  obtain ⟨n2, hn2, rfl⟩ := byte_of w2
  obtain ⟨i1, i2⟩ := int_in w1
  have hs : n2 % 3 < 3 := Nat.mod_lt _ (by decide)
  have hk : n0 % 5 = 0 ∨ n0 % 5 = 1 ∨ n0 % 5 = 2 ∨ n0 % 5 = 3 ∨ n0 % 5 = 4 := by omega
  rcases hk with hk | hk | hk | hk | hk
  · cases a1 with
    | ofNat x =>
      by_cases h0 : x = 0
      · subst h0
        exact consts_top (rhoX 0) hn0 hn2 (by rw [hk]; exact some_all consts_a _ hs) (vInt _ _) w
      by_cases h1 : x = 1
      · subst h1
        exact consts_top (rhoX 0) hn0 hn2 (by rw [hk]; exact some_all consts_b _ hs) (vInt _ _) w
      have hx : 2 ≤ x := by omega
      exact consts_top (rhoX x) hn0 hn2 (by rw [hk]; exact (int_run hx (by simp only [Int.ofNat_eq_natCast] at i2; omega) hs).1) (vBits x hx) w
    | negSucc x =>
      by_cases h0 : x = 0
      · subst h0
        exact consts_top (rhoX 0) hn0 hn2 (by rw [hk]; exact some_all consts_c _ hs) (vInt _ _) w
      by_cases h1 : x = 1
      · subst h1
        exact consts_top (rhoX 0) hn0 hn2 (by rw [hk]; exact some_all consts_d _ hs) (vInt _ _) w
      have hx : 2 ≤ x := by omega
      exact consts_top (rhoX x) hn0 hn2 (by rw [hk]; exact (int_run hx (by omega) hs).2) (vNbits x hx) w
  · obtain ⟨j, hj, he⟩ := leaves_val a1
    have h := cplx_all (j * 3 + n2 % 3) (by omega)
    unfold cplxRun at h
    have e1 : Nat.div (j * 3 + n2 % 3) 3 = j := by
      show (j * 3 + n2 % 3) / 3 = j
      omega
    have e2 : Nat.mod (j * 3 + n2 % 3) 3 = n2 % 3 := by
      show (j * 3 + n2 % 3) % 3 = n2 % 3
      omega
    rw [e1, e2] at h
    exact consts_top (rhoX 0) hn0 hn2 (by rw [hk]; exact h) (@VRel.tm (rhoX 0) _ _ _ _ _ he) w
  · exact consts_top (rhoX 0) hn0 hn2 (by rw [hk]; exact some_all consts_e _ hs) (@VRel.undef (rhoX 0) _ _) w
  · exact consts_top (rhoX 0) hn0 hn2 (by rw [hk]; exact some_all consts_f _ hs) (@VRel.undef (rhoX 0) _ _) w
  · exact consts_top (rhoX 0) hn0 hn2 (by rw [hk]; exact some_all consts_g _ hs) (@VRel.undef (rhoX 0) _ _) w
end Go.Proofs.Ytiecclkgjcnaoaa.Ae
