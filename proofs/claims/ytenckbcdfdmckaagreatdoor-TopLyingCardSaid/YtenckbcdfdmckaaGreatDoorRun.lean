/-
  TopLying: its run, in parts. (Printed by runlaw.py.)
-/
import Derived.Test.YtenckbcdfdmckaaGreatDoorTopD
set_option linter.unusedSimpArgs false
set_option linter.unusedVariables false
namespace Go.Top
open Go Go.Eng
set_option maxRecDepth 100000
def I (n : Nat) : CT := .int .i64 (.ofNat n)
def J (n : Nat) : CV := .int .i64 (.ofNat n)
def U (n : Nat) : CV := .int .u32 (.ofNat n)
def W (n : Nat) : CT := .int .u32 (.ofNat n)
def ll0 : List (List CT) := [[I 2, I 0, .str 0 0, .str 0 0, I 0], [I 0, I 0, .str 0 0, .str 0 0, I 0], [I 0, I 0, .str 0 0, .str 0 0, I 0], [I 0, I 0, .str 0 0, .str 0 0, I 0], [I 0, I 0, .str 0 0, .str 0 0, I 0], [I 0, I 0, .str 0 0, .str 0 0, I 0], [I 0, I 0, .str 0 0, .str 0 0, I 0], [I 0, I 0, .str 0 0, .str 0 0, I 0]]
def ll1 : List (List CT) := [[I 0, I 0, W 0, W 0, W 0, W 0], [I 0, I 0, W 0, W 0, W 0, W 0], [I 0, I 0, W 0, W 0, W 0, W 0], [I 0, I 0, W 0, W 0, W 0, W 0]]
def lv2 : CV := .str 256 0x25d000100000002
def ll3 : List (List CT) := [[I 14, I 1, W 0x25d0003, W 0x94e300bf, W 0x9c601820, W 0x3c221020], [I 0, I 0, W 0, W 0, W 0, W 0], [I 0, I 0, W 0, W 0, W 0, W 0], [I 0, I 0, W 0, W 0, W 0, W 0], [I 0, I 0, W 0, W 0, W 0, W 0], [I 0, I 0, W 0, W 0, W 0, W 0], [I 0, I 0, W 0, W 0, W 0, W 0], [I 0, I 0, W 0, W 0, W 0, W 0]]
def lv4 : CV := .str 176 0x2010223c2018609cbf00e39403005d02010000000e00
def lv5 : CV := .str 256 0x2010223c2018609cbf00e39403005d02010000000e00b0000100000003
def ll6 : List (List CT) := [[I 15, I 1, W 0x2a736f15, W 0xbcd5f5b9, W 0xd4a6cef9, W 0xbd451ebd]]
def lv7 : CV := .str 22 0xbd1e45bdf9cea6d4b9f5d5bc156f732a010000000f00
def lv8 : CV := .str 29 0xbd1e45bdf9cea6d4b9f5d5bc156f732a010000000f0000000001010001
def lv9 : CV := .str 256 0xbd1e45bdf9cea6d4b9f5d5bc156f732a010000000f00000000010100011d000100000004
def lv10 : CV := .str 256 0x1f20000100000005
def ll11 : List (List CT) := [[I 16, I 1, W 0x9770367c, W 0x25659d11, W 0xe1c08a78, W 0x9021ca78], [I 17, I 1, W 0x1f200006, W 0xa8e0017f, W 0x1c003080, W 0xb4042860], [I 0, I 0, W 0, W 0, W 0, W 0]]
def lv12 : CV := .str 66 0x602804b48030001c7f01e0a80600201f01000000110078ca2190788ac0e1119d65257c367097010000001000
def lv13 : CV := .str 82 0x602804b48030001c7f01e0a80600201f01000000110078ca2190788ac0e1119d65257c367097010000001000070000000200000001000000
def lv14 : CV := .str 256 0x602804b48030001c7f01e0a80600201f01000000110078ca2190788ac0e1119d65257c36709701000000100007000000020000000100000052000100000006
def ll15 : List (List CT) := [[I 18, I 1, W 0xc18b8899, W 0xcfba61f9, W 0x751fce33, W 0xde7fedc4]]
def lv16 : CV := .str 22 0xc4ed7fde33ce1f75f961bacf99888bc1010000001200
def lv17 : CV := .str 256 0xe0bea2635ce2f7c0c229d1ef96e7a59ec4ed7fde33ce1f75f961bacf99888bc1010000001200010700000001000000ab
def ls18 : CT := .str 256 0xb7023c000b023c005f013c00b3003c003c0007000000ac
def ls19 : CT := .str 256 0xe0bea2635ce2f7c0c229d1ef96e7a59ec4ed7fde33ce1f75f961bacf99888bc1010000001200010700000001000000ab
def ls20 : CT := .str 256 0x25d000100000002
def ls21 : CT := .str 256 0x2010223c2018609cbf00e39403005d02010000000e00b0000100000003
def ls22 : CT := .str 256 0xbd1e45bdf9cea6d4b9f5d5bc156f732a010000000f00000000010100011d000100000004
def ls23 : CT := .str 256 0x1f20000100000005
def ls24 : CT := .str 256 0x602804b48030001c7f01e0a80600201f01000000110078ca2190788ac0e1119d65257c36709701000000100007000000020000000100000052000100000006
def ll25 : List (List CT) := [[ls18], [.str 256 0], [ls19], [.str 256 0], [.str 256 0], [.str 256 0], [.str 256 0], [ls18], [.str 256 0], [ls19], [.str 256 0], [.str 256 0], [.str 256 0], [.str 256 0], [ls20], [ls21], [ls22], [ls23], [ls24], [.str 256 0], [.str 256 0], [.str 256 0], [.str 256 0], [.str 256 0], [.str 256 0], [.str 256 0], [.str 256 0], [.str 256 0], [.str 256 0], [.str 256 0], [.str 256 0], [.str 256 0], [.str 256 0], [.str 256 0], [.str 256 0], [.str 256 0], [.str 256 0], [.str 256 0], [.str 256 0], [.str 256 0], [.str 256 0], [.str 256 0], [.str 256 0], [.str 256 0], [.str 256 0], [.str 256 0], [.str 256 0], [.str 256 0], [.str 256 0], [.str 256 0], [.str 256 0], [.str 256 0], [.str 256 0], [.str 256 0], [.str 256 0], [.str 256 0], [.str 256 0], [.str 256 0], [.str 256 0], [.str 256 0], [.str 256 0], [.str 256 0], [.str 256 0], [.str 256 0], [.str 256 0], [.str 256 0], [.str 256 0], [.str 256 0], [.str 256 0], [.str 256 0], [.str 256 0], [.str 256 0], [.str 256 0], [.str 256 0], [ls18], [.str 256 0], [ls19], [.str 256 0], [.str 256 0], [.str 256 0], [.str 256 0], [ls18], [.str 256 0], [ls19], [.str 256 0], [.str 256 0], [.str 256 0], [.str 256 0]]
def ll26 : List (List CT) := [[I 2, I 0, .str 0 0, .str 0 0, I 0], [I 1, I 0, .str 1 97, .str 0 0, I 0], [I 0, I 0, .str 0 0, .str 0 0, I 0], [I 0, I 0, .str 0 0, .str 0 0, I 0], [I 0, I 0, .str 0 0, .str 0 0, I 0], [I 0, I 0, .str 0 0, .str 0 0, I 0], [I 0, I 0, .str 0 0, .str 0 0, I 0], [I 0, I 0, .str 0 0, .str 0 0, I 0]]
def ll27 : List (List CT) := [[I 2, I 0, .str 0 0, .str 0 0, I 0], [I 1, I 0, .str 1 97, .str 2 26984, I 0], [I 0, I 0, .str 0 0, .str 0 0, I 0], [I 0, I 0, .str 0 0, .str 0 0, I 0], [I 0, I 0, .str 0 0, .str 0 0, I 0], [I 0, I 0, .str 0 0, .str 0 0, I 0], [I 0, I 0, .str 0 0, .str 0 0, I 0], [I 0, I 0, .str 0 0, .str 0 0, I 0]]
def lv28 : CV := .str 70 0x602804b48030001c7f01e0a80600201f01000000110078ca2190788ac0e1119d65257c367097010000001000
def lv29 : CV := .str 256 0x696820000200000001
def ll30 : List (List CT) := [[I 19, I 2, W 0x6820006c, W 0x9fe01a2c, W 0xfc0338e9, W 0x5444c8c0], [I 0, I 0, W 0, W 0, W 0, W 0], [I 0, I 0, W 0, W 0, W 0, W 0], [I 0, I 0, W 0, W 0, W 0, W 0]]
def lv31 : CV := .str 88 0xc0c84454e93803fc2c1ae09f6c002068020000001300
def lv32 : CV := .str 94 0xc0c84454e93803fc2c1ae09f6c002068020000001300020061010001
def lv33 : CV := .str 256 0xc0c84454e93803fc2c1ae09f6c0020680200000013000200610100015e000200000002
def ll34 : List (List CT) := [[I 14, I 1, W 0x25d0003, W 0x94e300bf, W 0x9c601820, W 0x3c221020], [I 20, I 2, W 0x5b161c4d, W 0xc49aa523, W 0x56357f75, W 0x4635cb55], [I 0, I 0, W 0, W 0, W 0, W 0], [I 0, I 0, W 0, W 0, W 0, W 0], [I 0, I 0, W 0, W 0, W 0, W 0], [I 0, I 0, W 0, W 0, W 0, W 0], [I 0, I 0, W 0, W 0, W 0, W 0], [I 0, I 0, W 0, W 0, W 0, W 0]]
def lv35 : CV := .str 176 0x55cb3546757f355623a59ac44d1c165b0200000014002010223c2018609cbf00e39403005d02010000000e00
def lv36 : CV := .str 256 0x55cb3546757f355623a59ac44d1c165b0200000014002010223c2018609cbf00e39403005d02010000000e00b0000200000003
def ll37 : List (List CT) := [[I 21, I 2, W 0xe6c57b30, W 0xa99089eb, W 0xeb814e10, W 0xf7238ee0]]
def lv38 : CV := .str 22 0xe08e23f7104e81ebeb8990a9307bc5e6020000001500
def lv39 : CV := .str 29 0xe08e23f7104e81ebeb8990a9307bc5e602000000150000000001010001
def lv40 : CV := .str 256 0xe08e23f7104e81ebeb8990a9307bc5e6020000001500000000010100011d000200000004
def lv41 : CV := .str 32 0x1e00000000000007e1
def lv42 : CV := .str 256 0x1e00000000000007e120000200000005
def ll43 : List (List CT) := [[I 22, I 2, W 0x24fffd77, W 0x9a56d25, W 0xec520d4e, W 0x19c28e07], [I 23, I 2, W 0xff20000e, W 0x8ce00370, W 0x76006dc7, W 0x96094640], [I 0, I 0, W 0, W 0, W 0, W 0]]
def lv44 : CV := .str 66 0x40460996c76d00767003e08c0e0020ff020000001700078ec2194e0d52ec256da50977fdff24020000001600
def lv45 : CV := .str 82 0x40460996c76d00767003e08c0e0020ff020000001700078ec2194e0d52ec256da50977fdff24020000001600070000000200000002000000
def lv46 : CV := .str 256 0x40460996c76d00767003e08c0e0020ff020000001700078ec2194e0d52ec256da50977fdff2402000000160007000000020000000200000052000200000006
def ll47 : List (List CT) := [[I 24, I 2, W 0xa0b4ea1a, W 0xfcd9e230, W 0xc147f66d, W 0xa0816dc0]]
def lv48 : CV := .str 22 0xc06d81a06df647c130e2d9fc1aeab4a0020000001800
def lv49 : CV := .str 256 0x54037a01e2c5cc522683ad34b15a3194c06d81a06df647c130e2d9fc1aeab4a0020000001800020700000002000000ab
def ls50 : CT := .str 256 0x54037a01e2c5cc522683ad34b15a3194c06d81a06df647c130e2d9fc1aeab4a0020000001800020700000002000000ab
def ls51 : CT := .str 256 0x696820000200000001
def ls52 : CT := .str 256 0xc0c84454e93803fc2c1ae09f6c0020680200000013000200610100015e000200000002
def ls53 : CT := .str 256 0x55cb3546757f355623a59ac44d1c165b0200000014002010223c2018609cbf00e39403005d02010000000e00b0000200000003
def ls54 : CT := .str 256 0xe08e23f7104e81ebeb8990a9307bc5e6020000001500000000010100011d000200000004
def ls55 : CT := .str 256 0x1e00000000000007e120000200000005
def ls56 : CT := .str 256 0x40460996c76d00767003e08c0e0020ff020000001700078ec2194e0d52ec256da50977fdff2402000000160007000000020000000200000052000200000006
def ll57 : List (List CT) := [[ls18], [.str 256 0], [ls19], [ls50], [.str 256 0], [.str 256 0], [.str 256 0], [ls18], [.str 256 0], [ls19], [ls50], [.str 256 0], [.str 256 0], [.str 256 0], [ls20], [ls21], [ls22], [ls23], [ls24], [ls51], [ls52], [ls53], [ls54], [ls55], [ls56], [.str 256 0], [.str 256 0], [.str 256 0], [.str 256 0], [.str 256 0], [.str 256 0], [.str 256 0], [.str 256 0], [.str 256 0], [.str 256 0], [.str 256 0], [.str 256 0], [.str 256 0], [.str 256 0], [.str 256 0], [.str 256 0], [.str 256 0], [.str 256 0], [.str 256 0], [.str 256 0], [.str 256 0], [.str 256 0], [.str 256 0], [.str 256 0], [.str 256 0], [.str 256 0], [.str 256 0], [.str 256 0], [.str 256 0], [.str 256 0], [.str 256 0], [.str 256 0], [.str 256 0], [.str 256 0], [.str 256 0], [.str 256 0], [.str 256 0], [.str 256 0], [.str 256 0], [.str 256 0], [.str 256 0], [.str 256 0], [.str 256 0], [.str 256 0], [.str 256 0], [.str 256 0], [.str 256 0], [.str 256 0], [.str 256 0], [ls18], [.str 256 0], [ls19], [ls50], [.str 256 0], [.str 256 0], [.str 256 0], [ls18], [.str 256 0], [ls19], [ls50], [.str 256 0], [.str 256 0], [.str 256 0]]
def lv58 : CV := .str 246 0xe0bea2635ce2f7c0c229d1ef96e7a59ec4ed7fde33ce1f75f961bacf99888bc1010000001200
def lv59 : CV := .str 224 0xe0bea2635ce2f7c0c229d1ef96e7a59e
def lv60 : CV := .str 246 0x54037a01e2c5cc522683ad34b15a3194c06d81a06df647c130e2d9fc1aeab4a0020000001800
def lv61 : CV := .str 224 0x54037a01e2c5cc522683ad34b15a3194
def lv62 : CV := .str 70 0x40460996c76d00767003e08c0e0020ff020000001700078ec2194e0d52ec256da50977fdff24020000001600
def lv63 : CV := .str 256 0x1f28000100000005
def ll64 : List (List CT) := [[I 16, I 1, W 0x9770367c, W 0x25659d11, W 0xe1c08a78, W 0x9021ca78], [I 17, I 1, W 0x1f280006, W 0xaad8017f, W 0x5b003080, W 0x9042860], [I 0, I 0, W 0, W 0, W 0, W 0]]
def lv65 : CV := .str 66 0x602804098030005b7f01d8aa0600281f01000000110078ca2190788ac0e1119d65257c367097010000001000
def lv66 : CV := .str 82 0x602804098030005b7f01d8aa0600281f01000000110078ca2190788ac0e1119d65257c367097010000001000070000000200000001000000
def lv67 : CV := .str 256 0x602804098030005b7f01d8aa0600281f01000000110078ca2190788ac0e1119d65257c36709701000000100007000000020000000100000052000100000006
def ll68 : List (List CT) := [[I 18, I 1, W 0x578b8899, W 0x5eba6201, W 0xe21fcfd3, W 0x888018d4]]
def lv69 : CV := .str 22 0xd4188088d3cf1fe20162ba5e99888b57010000001200
def lv70 : CV := .str 256 0x8cb4db4283dd2be04b280157d2e7d255d4188088d3cf1fe20162ba5e99888b57010000001200010700000001000000ab
def ls71 : CT := .str 256 0xb70250000b0250005f015000b3005000500007000000ac
def ls72 : CT := .str 256 0x8cb4db4283dd2be04b280157d2e7d255d4188088d3cf1fe20162ba5e99888b57010000001200010700000001000000ab
def ls73 : CT := .str 256 0x1f28000100000005
def ls74 : CT := .str 256 0x602804098030005b7f01d8aa0600281f01000000110078ca2190788ac0e1119d65257c36709701000000100007000000020000000100000052000100000006
def ll75 : List (List CT) := [[ls71], [.str 256 0], [ls72], [.str 256 0], [.str 256 0], [.str 256 0], [.str 256 0], [ls71], [.str 256 0], [ls72], [.str 256 0], [.str 256 0], [.str 256 0], [.str 256 0], [ls20], [ls21], [ls22], [ls73], [ls74], [.str 256 0], [.str 256 0], [.str 256 0], [.str 256 0], [.str 256 0], [.str 256 0], [.str 256 0], [.str 256 0], [.str 256 0], [.str 256 0], [.str 256 0], [.str 256 0], [.str 256 0], [.str 256 0], [.str 256 0], [.str 256 0], [.str 256 0], [.str 256 0], [.str 256 0], [.str 256 0], [.str 256 0], [.str 256 0], [.str 256 0], [.str 256 0], [.str 256 0], [.str 256 0], [.str 256 0], [.str 256 0], [.str 256 0], [.str 256 0], [.str 256 0], [.str 256 0], [.str 256 0], [.str 256 0], [.str 256 0], [.str 256 0], [.str 256 0], [.str 256 0], [.str 256 0], [.str 256 0], [.str 256 0], [.str 256 0], [.str 256 0], [.str 256 0], [.str 256 0], [.str 256 0], [.str 256 0], [.str 256 0], [.str 256 0], [.str 256 0], [.str 256 0], [.str 256 0], [.str 256 0], [.str 256 0], [.str 256 0], [.str 256 0], [.str 256 0], [.str 256 0], [.str 256 0], [.str 256 0], [.str 256 0], [.str 256 0], [.str 256 0], [.str 256 0], [.str 256 0], [.str 256 0], [.str 256 0], [.str 256 0], [.str 256 0], [.str 256 0], [.str 256 0], [.str 256 0], [.str 256 0], [.str 256 0], [.str 256 0], [ls71], [.str 256 0], [ls72], [.str 256 0], [.str 256 0], [.str 256 0], [.str 256 0], [ls71], [.str 256 0], [ls72], [.str 256 0], [.str 256 0], [.str 256 0], [.str 256 0]]
def lv76 : CV := .str 70 0x602804098030005b7f01d8aa0600281f01000000110078ca2190788ac0e1119d65257c367097010000001000
def lv77 : CV := .str 256 0x610100015e000200000002
def ll78 : List (List CT) := [[I 14, I 1, W 0x25d0003, W 0x94e300bf, W 0x9c601820, W 0x3c221020], [I 19, I 2, W 0x1bf0104, W 0x6da03efe, W 0xa848c100, W 0xf2257ac0], [I 0, I 0, W 0, W 0, W 0, W 0], [I 0, I 0, W 0, W 0, W 0, W 0], [I 0, I 0, W 0, W 0, W 0, W 0], [I 0, I 0, W 0, W 0, W 0, W 0], [I 0, I 0, W 0, W 0, W 0, W 0], [I 0, I 0, W 0, W 0, W 0, W 0]]
def lv79 : CV := .str 176 0xc07a25f200c148a8fe3ea06d0401bf010200000013002010223c2018609cbf00e39403005d02010000000e00
def lv80 : CV := .str 256 0xc07a25f200c148a8fe3ea06d0401bf010200000013002010223c2018609cbf00e39403005d02010000000e00b0000200000003
def ll81 : List (List CT) := [[I 20, I 2, W 0x344beae2, W 0x4c3f5f2d, W 0x7d038297, W 0xff9baf9d]]
def lv82 : CV := .str 22 0x9daf9bff9782037d2d5f3f4ce2ea4b34020000001400
def lv83 : CV := .str 29 0x9daf9bff9782037d2d5f3f4ce2ea4b3402000000140000000001010001
def lv84 : CV := .str 256 0x9daf9bff9782037d2d5f3f4ce2ea4b34020000001400000000010100011d000200000004
def lv85 : CV := .str 40 0x1e000000000000000003e1
def lv86 : CV := .str 256 0x1e000000000000000003e128000200000005
def ll87 : List (List CT) := [[I 21, I 2, W 0x5c992b02, W 0x5051d24f, W 0x58dde3a1, W 0x596fc3c9], [I 22, I 2, W 0xe1281e0a, W 0x68df0a78, W 0x1bd6c343, W 0x5a56c340], [I 0, I 0, W 0, W 0, W 0, W 0]]
def lv88 : CV := .str 66 0x40c3565a43c3d61b780adf680a1e28e1020000001600c9c36f59a1e3dd584fd25150022b995c020000001500
def lv89 : CV := .str 82 0x40c3565a43c3d61b780adf680a1e28e1020000001600c9c36f59a1e3dd584fd25150022b995c020000001500070000000200000002000000
def lv90 : CV := .str 256 0x40c3565a43c3d61b780adf680a1e28e1020000001600c9c36f59a1e3dd584fd25150022b995c02000000150007000000020000000200000052000200000006
def ll91 : List (List CT) := [[I 23, I 2, W 0x64b30f0d, W 0x83a15acf, W 0xda1a5ab1, W 0xaeb326a8]]
def lv92 : CV := .str 22 0xa826b3aeb15a1adacf5aa1830d0fb364020000001700
def lv93 : CV := .str 256 0x5c3454da0d12f21b0bad29412326eb4ea826b3aeb15a1adacf5aa1830d0fb364020000001700020700000002000000ab
def ls94 : CT := .str 256 0x5c3454da0d12f21b0bad29412326eb4ea826b3aeb15a1adacf5aa1830d0fb364020000001700020700000002000000ab
def ls95 : CT := .str 256 0x610100015e000200000002
def ls96 : CT := .str 256 0xc07a25f200c148a8fe3ea06d0401bf010200000013002010223c2018609cbf00e39403005d02010000000e00b0000200000003
def ls97 : CT := .str 256 0x9daf9bff9782037d2d5f3f4ce2ea4b34020000001400000000010100011d000200000004
def ls98 : CT := .str 256 0x1e000000000000000003e128000200000005
def ls99 : CT := .str 256 0x40c3565a43c3d61b780adf680a1e28e1020000001600c9c36f59a1e3dd584fd25150022b995c02000000150007000000020000000200000052000200000006
def ll100 : List (List CT) := [[ls71], [.str 256 0], [ls72], [ls94], [.str 256 0], [.str 256 0], [.str 256 0], [ls71], [.str 256 0], [ls72], [ls94], [.str 256 0], [.str 256 0], [.str 256 0], [ls20], [ls21], [ls22], [ls73], [ls74], [ls95], [ls96], [ls97], [ls98], [ls99], [.str 256 0], [.str 256 0], [.str 256 0], [.str 256 0], [.str 256 0], [.str 256 0], [.str 256 0], [.str 256 0], [.str 256 0], [.str 256 0], [.str 256 0], [.str 256 0], [.str 256 0], [.str 256 0], [.str 256 0], [.str 256 0], [.str 256 0], [.str 256 0], [.str 256 0], [.str 256 0], [.str 256 0], [.str 256 0], [.str 256 0], [.str 256 0], [.str 256 0], [.str 256 0], [.str 256 0], [.str 256 0], [.str 256 0], [.str 256 0], [.str 256 0], [.str 256 0], [.str 256 0], [.str 256 0], [.str 256 0], [.str 256 0], [.str 256 0], [.str 256 0], [.str 256 0], [.str 256 0], [.str 256 0], [.str 256 0], [.str 256 0], [.str 256 0], [.str 256 0], [.str 256 0], [.str 256 0], [.str 256 0], [.str 256 0], [.str 256 0], [.str 256 0], [.str 256 0], [.str 256 0], [.str 256 0], [.str 256 0], [.str 256 0], [.str 256 0], [.str 256 0], [.str 256 0], [.str 256 0], [.str 256 0], [.str 256 0], [.str 256 0], [.str 256 0], [.str 256 0], [.str 256 0], [.str 256 0], [.str 256 0], [.str 256 0], [.str 256 0], [ls71], [.str 256 0], [ls72], [ls94], [.str 256 0], [.str 256 0], [.str 256 0], [ls71], [.str 256 0], [ls72], [ls94], [.str 256 0], [.str 256 0], [.str 256 0]]
def ll101 : List (List CT) := [[I 2, I 0, .str 0 0, .str 0 0, I 0], [I 1, I 0, .str 1 97, .str 0 0, I 0], [I 1, I 0, .str 1 98, .str 0 0, I 0], [I 0, I 0, .str 0 0, .str 0 0, I 0], [I 0, I 0, .str 0 0, .str 0 0, I 0], [I 0, I 0, .str 0 0, .str 0 0, I 0], [I 0, I 0, .str 0 0, .str 0 0, I 0], [I 0, I 0, .str 0 0, .str 0 0, I 0]]
def lv102 : CV := .str 70 0x40c3565a43c3d61b780adf680a1e28e1020000001600c9c36f59a1e3dd584fd25150022b995c020000001500
def lv103 : CV := .str 256 0x620100015e000300000002
def ll104 : List (List CT) := [[I 14, I 1, W 0x25d0003, W 0x94e300bf, W 0x9c601820, W 0x3c221020], [I 19, I 2, W 0x1bf0104, W 0x6da03efe, W 0xa848c100, W 0xf2257ac0], [I 24, I 3, W 0x1c00105, W 0x6dde3f3d, W 0xafe9c8e0, W 0x94e62560], [I 0, I 0, W 0, W 0, W 0, W 0], [I 0, I 0, W 0, W 0, W 0, W 0], [I 0, I 0, W 0, W 0, W 0, W 0], [I 0, I 0, W 0, W 0, W 0, W 0], [I 0, I 0, W 0, W 0, W 0, W 0]]
def lv105 : CV := .str 176 0x6025e694e0c8e9af3d3fde6d0501c001030000001800c07a25f200c148a8fe3ea06d0401bf010200000013002010223c2018609cbf00e39403005d02010000000e00
def lv106 : CV := .str 256 0x6025e694e0c8e9af3d3fde6d0501c001030000001800c07a25f200c148a8fe3ea06d0401bf010200000013002010223c2018609cbf00e39403005d02010000000e00b0000300000003
def ll107 : List (List CT) := [[I 25, I 3, W 0x64ba9d80, W 0x7e78b68f, W 0xc51f4e3d, W 0xb60b1e76]]
def lv108 : CV := .str 22 0x761e0bb63d4e1fc58fb6787e809dba64030000001900
def lv109 : CV := .str 29 0x761e0bb63d4e1fc58fb6787e809dba6403000000190000000001010001
def lv110 : CV := .str 256 0x761e0bb63d4e1fc58fb6787e809dba64030000001900000000010100011d000300000004
def ll111 : List (List CT) := [[I 14, I 15], [I 19, I 20], [I 24, I 29]]
def ll112 : List (List CT) := [[I 15, I 19], [I 20, I 24], [I 29, I 94]]
def lv113 : CV := .str 40 0x1e000000000000000003c000000000000000007c21
def lv114 : CV := .str 256 0x1e000000000000000003c000000000000000007c2128000300000005
def ll115 : List (List CT) := [[I 26, I 3, W 0xe0de5f64, W 0xa00a2402, W 0xece7085b, W 0xab5fc081], [I 27, I 3, W 0x3f2bc084, W 0xf5b92005, W 0xb7d2723c, W 0x9b5552a0], [I 0, I 0, W 0, W 0, W 0, W 0]]
def lv116 : CV := .str 66 0xa052559b3c72d2b70520b9f584c02b3f030000001b0081c05fab5b08e7ec02240aa0645fdee0030000001a00
def lv117 : CV := .str 82 0xa052559b3c72d2b70520b9f584c02b3f030000001b0081c05fab5b08e7ec02240aa0645fdee0030000001a00070000000200000003000000
def lv118 : CV := .str 256 0xa052559b3c72d2b70520b9f584c02b3f030000001b0081c05fab5b08e7ec02240aa0645fdee0030000001a0007000000020000000300000052000300000006
def ll119 : List (List CT) := [[I 28, I 3, W 0xd513be73, W 0xf3f7c840, W 0xaad5a86d, W 0x500cee83]]
def lv120 : CV := .str 22 0x83ee0c506da8d5aa40c8f7f373be13d5030000001c00
def lv121 : CV := .str 256 0xc6994556457b0b50680693a777f11dc583ee0c506da8d5aa40c8f7f373be13d5030000001c00030700000003000000ab
def ls122 : CT := .str 256 0x620100015e000300000002
def ls123 : CT := .str 256 0x6025e694e0c8e9af3d3fde6d0501c001030000001800c07a25f200c148a8fe3ea06d0401bf010200000013002010223c2018609cbf00e39403005d02010000000e00b0000300000003
def ls124 : CT := .str 256 0x761e0bb63d4e1fc58fb6787e809dba64030000001900000000010100011d000300000004
def ls125 : CT := .str 256 0x1e000000000000000003c000000000000000007c2128000300000005
def ls126 : CT := .str 256 0xa052559b3c72d2b70520b9f584c02b3f030000001b0081c05fab5b08e7ec02240aa0645fdee0030000001a0007000000020000000300000052000300000006
def ls127 : CT := .str 256 0xc6994556457b0b50680693a777f11dc583ee0c506da8d5aa40c8f7f373be13d5030000001c00030700000003000000ab
def ll128 : List (List CT) := [[I 24, ls122], [I 25, ls123], [I 26, ls124], [I 27, ls125], [I 28, ls126], [I 4, ls127], [I 98, ls127], [I 11, ls127], [I 105, ls127]]
def ll129 : List (List CT) := [[I 2, I 0, .str 0 0, .str 0 0, I 0], [I 1, I 0, .str 1 97, .str 0 0, I 0], [I 1, I 0, .str 1 98, .str 0 0, I 0], [I 1, I 0, .str 1 99, .str 0 0, I 0], [I 0, I 0, .str 0 0, .str 0 0, I 0], [I 0, I 0, .str 0 0, .str 0 0, I 0], [I 0, I 0, .str 0 0, .str 0 0, I 0], [I 0, I 0, .str 0 0, .str 0 0, I 0]]
def lv130 : CV := .str 70 0xa052559b3c72d2b70520b9f584c02b3f030000001b0081c05fab5b08e7ec02240aa0645fdee0030000001a00
def lv131 : CV := .str 30 0x1e000000000000000003c0
def lv132 : CV := .str 256 0x630100015e000400000002
def ll133 : List (List CT) := [[I 14, I 1, W 0x25d0003, W 0x94e300bf, W 0x9c601820, W 0x3c221020], [I 19, I 2, W 0x1bf0104, W 0x6da03efe, W 0xa848c100, W 0xf2257ac0], [I 24, I 3, W 0x1c00105, W 0x6dde3f3d, W 0xafe9c8e0, W 0x94e62560], [I 29, I 4, W 0x1c10106, W 0x6e1c3f7c, W 0xb78ad0c0, W 0x37a6d000], [I 0, I 0, W 0, W 0, W 0, W 0], [I 0, I 0, W 0, W 0, W 0, W 0], [I 0, I 0, W 0, W 0, W 0, W 0], [I 0, I 0, W 0, W 0, W 0, W 0]]
def lv134 : CV := .str 176 0xd0a637c0d08ab77c3f1c6e0601c101040000001d006025e694e0c8e9af3d3fde6d0501c001030000001800c07a25f200c148a8fe3ea06d0401bf010200000013002010223c2018609cbf00e39403005d02010000000e00
def lv135 : CV := .str 256 0xd0a637c0d08ab77c3f1c6e0601c101040000001d006025e694e0c8e9af3d3fde6d0501c001030000001800c07a25f200c148a8fe3ea06d0401bf010200000013002010223c2018609cbf00e39403005d02010000000e00b0000400000003
def ll136 : List (List CT) := [[I 30, I 4, W 0xc31f7f8e, W 0x920d3ee8, W 0x8af9a907, W 0xc948e120]]
def lv137 : CV := .str 22 0x20e148c907a9f98ae83e0d928e7f1fc3040000001e00
def lv138 : CV := .str 29 0x20e148c907a9f98ae83e0d928e7f1fc3040000001e0000000001010001
def lv139 : CV := .str 256 0x20e148c907a9f98ae83e0d928e7f1fc3040000001e00000000010100011d000400000004
def ll140 : List (List CT) := [[I 14, I 15], [I 19, I 20], [I 24, I 25], [I 29, I 34]]
def ll141 : List (List CT) := [[I 14, I 15], [I 19, I 20], [I 24, I 34]]
def ll142 : List (List CT) := [[I 15, I 19], [I 20, I 24], [I 25, I 29], [I 34, I 94]]
def ll143 : List (List CT) := [[I 15, I 19], [I 20, I 24], [I 34, I 94]]
def lv144 : CV := .str 40 0x3c000000000000000007800000000000000000f8421
def lv145 : CV := .str 256 0x3c000000000000000007800000000000000000f842128000400000005
def ll146 : List (List CT) := [[I 31, I 4, W 0xc26670b0, W 0xb7dd20b3, W 0xe8c13b3a, W 0xc1bbda04], [I 32, I 4, W 0xe1a00f90, W 0xc4fbc4df, W 0xb546b983, W 0x9304d037], [I 0, I 0, W 0, W 0, W 0, W 0]]
def lv147 : CV := .str 66 0x37d0049383b946b5dfc4fbc4900fa0e104000000200004dabbc13a3bc1e8b320ddb7b07066c2040000001f00
def lv148 : CV := .str 82 0x37d0049383b946b5dfc4fbc4900fa0e104000000200004dabbc13a3bc1e8b320ddb7b07066c2040000001f00070000000200000004000000
def lv149 : CV := .str 256 0x37d0049383b946b5dfc4fbc4900fa0e104000000200004dabbc13a3bc1e8b320ddb7b07066c2040000001f0007000000020000000400000052000400000006
def ll150 : List (List CT) := [[I 33, I 4, W 0x977081b3, W 0x907fbb20, W 0x197cb0f2, W 0xc465f18c]]
def lv151 : CV := .str 22 0x8cf165c4f2b07c1920bb7f90b3817097040000002100
def lv152 : CV := .str 256 0x9450246964aa761da0bc8a7cbad6de788cf165c4f2b07c1920bb7f90b3817097040000002100040700000004000000ab
def ls153 : CT := .str 256 0x630100015e000400000002
def ls154 : CT := .str 256 0xd0a637c0d08ab77c3f1c6e0601c101040000001d006025e694e0c8e9af3d3fde6d0501c001030000001800c07a25f200c148a8fe3ea06d0401bf010200000013002010223c2018609cbf00e39403005d02010000000e00b0000400000003
def ls155 : CT := .str 256 0x20e148c907a9f98ae83e0d928e7f1fc3040000001e00000000010100011d000400000004
def ls156 : CT := .str 256 0x3c000000000000000007800000000000000000f842128000400000005
def ls157 : CT := .str 256 0x37d0049383b946b5dfc4fbc4900fa0e104000000200004dabbc13a3bc1e8b320ddb7b07066c2040000001f0007000000020000000400000052000400000006
def ls158 : CT := .str 256 0x9450246964aa761da0bc8a7cbad6de788cf165c4f2b07c1920bb7f90b3817097040000002100040700000004000000ab
def ll159 : List (List CT) := [[I 24, ls122], [I 25, ls123], [I 26, ls124], [I 27, ls125], [I 28, ls126], [I 4, ls127], [I 98, ls127], [I 11, ls127], [I 105, ls127], [I 29, ls153], [I 30, ls154], [I 31, ls155], [I 32, ls156], [I 33, ls157], [I 5, ls158], [I 99, ls158], [I 12, ls158], [I 106, ls158]]
def lv160 : CV := .str 246 0x8cb4db4283dd2be04b280157d2e7d255d4188088d3cf1fe20162ba5e99888b57010000001200
def lv161 : CV := .str 224 0x8cb4db4283dd2be04b280157d2e7d255
def lv162 : CV := .str 246 0x5c3454da0d12f21b0bad29412326eb4ea826b3aeb15a1adacf5aa1830d0fb364020000001700
def lv163 : CV := .str 224 0x5c3454da0d12f21b0bad29412326eb4e
def lv164 : CV := .str 246 0xc6994556457b0b50680693a777f11dc583ee0c506da8d5aa40c8f7f373be13d5030000001c00
def lv165 : CV := .str 224 0xc6994556457b0b50680693a777f11dc5
def lv166 : CV := .str 246 0x9450246964aa761da0bc8a7cbad6de788cf165c4f2b07c1920bb7f90b3817097040000002100
def lv167 : CV := .str 224 0x9450246964aa761da0bc8a7cbad6de78
def lv168 : CV := .str 70 0x37d0049383b946b5dfc4fbc4900fa0e104000000200004dabbc13a3bc1e8b320ddb7b07066c2040000001f00
def lv169 : CV := .str 30 0x3c000000000000000007800
def ll170 : List (List CT) := [[I 3], [I 3], [I 3], [I 3], [I 3], [I 3], [I 0], [I 0], [I 0], [I 0], [I 0], [I 0], [I 0], [I 0], [I 3]]
def ll171 : List (List CT) := [[ls71], [.str 256 0], [ls72], [ls94], [ls127], [ls158], [.str 256 0], [ls71], [.str 256 0], [ls72], [ls94], [.str 256 0], [.str 256 0], [.str 256 0], [ls20], [ls21], [ls22], [ls73], [ls74], [ls95], [ls96], [ls97], [ls98], [ls99], [ls122], [ls123], [ls124], [ls125], [ls126], [.str 256 0], [.str 256 0], [.str 256 0], [.str 256 0], [.str 256 0], [.str 256 0], [.str 256 0], [.str 256 0], [.str 256 0], [.str 256 0], [.str 256 0], [.str 256 0], [.str 256 0], [.str 256 0], [.str 256 0], [.str 256 0], [.str 256 0], [.str 256 0], [.str 256 0], [.str 256 0], [.str 256 0], [.str 256 0], [.str 256 0], [.str 256 0], [.str 256 0], [.str 256 0], [.str 256 0], [.str 256 0], [.str 256 0], [.str 256 0], [.str 256 0], [.str 256 0], [.str 256 0], [.str 256 0], [.str 256 0], [.str 256 0], [.str 256 0], [.str 256 0], [.str 256 0], [.str 256 0], [.str 256 0], [.str 256 0], [.str 256 0], [.str 256 0], [.str 256 0], [.str 256 0], [.str 256 0], [.str 256 0], [.str 256 0], [.str 256 0], [.str 256 0], [.str 256 0], [.str 256 0], [.str 256 0], [.str 256 0], [.str 256 0], [.str 256 0], [.str 256 0], [.str 256 0], [.str 256 0], [.str 256 0], [.str 256 0], [.str 256 0], [.str 256 0], [.str 256 0], [ls71], [.str 256 0], [ls72], [ls94], [.str 256 0], [.str 256 0], [.str 256 0], [ls71], [.str 256 0], [ls72], [ls94], [.str 256 0], [.str 256 0], [.str 256 0]]
def lv172 : CV := .str 256 0x761e0bb63d4e1fc58fb6787e809dba64030000001900000000010100011d000500000004
def ll173 : List (List CT) := [[I 14, I 15], [I 19, I 20], [I 24, I 26], [I 29, I 32]]
def ll174 : List (List CT) := [[I 14, I 15], [I 19, I 20], [I 24, I 32]]
def ll175 : List (List CT) := [[I 15, I 19], [I 20, I 24], [I 26, I 29], [I 32, I 94]]
def ll176 : List (List CT) := [[I 15, I 19], [I 20, I 24], [I 32, I 94]]
def lv177 : CV := .str 40 0x3c00000000000000000700000000000000000038c21
def lv178 : CV := .str 256 0x3c00000000000000000700000000000000000038c2128000500000005
def ll179 : List (List CT) := [[I 29, I 5, W 0xe0de5f66, W 0xa00a2480, W 0xece7181b, W 0xab6115c1], [I 30, I 5, W 0xe1980399, W 0xc318df0e, W 0x7bbb726b, W 0xed8990d7], [I 0, I 0, W 0, W 0, W 0, W 0]]
def lv180 : CV := .str 66 0xd79089ed6b72bb7b0edf18c3990398e1050000001e00c11561ab1b18e7ec80240aa0665fdee0050000001d00
def lv181 : CV := .str 82 0xd79089ed6b72bb7b0edf18c3990398e1050000001e00c11561ab1b18e7ec80240aa0665fdee0050000001d00070000000200000005000000
def lv182 : CV := .str 256 0xd79089ed6b72bb7b0edf18c3990398e1050000001e00c11561ab1b18e7ec80240aa0665fdee0050000001d0007000000020000000500000052000500000006
def ll183 : List (List CT) := [[I 31, I 5, W 0xc0a0fee3, W 0x44bd682c, W 0x90b0200e, W 0x946c75a1]]
def lv184 : CV := .str 22 0xa1756c940e20b0902c68bd44e3fea0c0050000001f00
def lv185 : CV := .str 256 0xd055f5dc87a23e9425a6eba5df7ffde3a1756c940e20b0902c68bd44e3fea0c0050000001f00040700000005000000ab
def ls186 : CT := .str 256 0xd055f5dc87a23e9425a6eba5df7ffde3a1756c940e20b0902c68bd44e3fea0c0050000001f00040700000005000000ab
def ls187 : CT := .str 256 0x761e0bb63d4e1fc58fb6787e809dba64030000001900000000010100011d000500000004
def ls188 : CT := .str 256 0x3c00000000000000000700000000000000000038c2128000500000005
def ls189 : CT := .str 256 0xd79089ed6b72bb7b0edf18c3990398e1050000001e00c11561ab1b18e7ec80240aa0665fdee0050000001d0007000000020000000500000052000500000006
def ll190 : List (List CT) := [[ls71], [.str 256 0], [ls72], [ls94], [ls127], [ls186], [.str 256 0], [ls71], [.str 256 0], [ls72], [ls94], [.str 256 0], [ls186], [.str 256 0], [ls20], [ls21], [ls22], [ls73], [ls74], [ls95], [ls96], [ls97], [ls98], [ls99], [ls122], [ls123], [ls124], [ls125], [ls126], [ls187], [ls188], [ls189], [.str 256 0], [.str 256 0], [.str 256 0], [.str 256 0], [.str 256 0], [.str 256 0], [.str 256 0], [.str 256 0], [.str 256 0], [.str 256 0], [.str 256 0], [.str 256 0], [.str 256 0], [.str 256 0], [.str 256 0], [.str 256 0], [.str 256 0], [.str 256 0], [.str 256 0], [.str 256 0], [.str 256 0], [.str 256 0], [.str 256 0], [.str 256 0], [.str 256 0], [.str 256 0], [.str 256 0], [.str 256 0], [.str 256 0], [.str 256 0], [.str 256 0], [.str 256 0], [.str 256 0], [.str 256 0], [.str 256 0], [.str 256 0], [.str 256 0], [.str 256 0], [.str 256 0], [.str 256 0], [.str 256 0], [.str 256 0], [.str 256 0], [.str 256 0], [.str 256 0], [.str 256 0], [.str 256 0], [.str 256 0], [.str 256 0], [.str 256 0], [.str 256 0], [.str 256 0], [.str 256 0], [.str 256 0], [.str 256 0], [.str 256 0], [.str 256 0], [.str 256 0], [.str 256 0], [.str 256 0], [.str 256 0], [.str 256 0], [ls71], [.str 256 0], [ls72], [ls94], [.str 256 0], [ls186], [.str 256 0], [ls71], [.str 256 0], [ls72], [ls94], [.str 256 0], [ls186], [.str 256 0]]
/- palimp/node.May, 5022 operations -/
def lc1_0 : List MS := [
  ⟨[.t (.seq 5 ll0)], .bool true⟩,
  ⟨[.t (.seq 5 ll27)], .bool true⟩,
  ⟨[.t (.seq 5 ll26)], .bool true⟩,
  ⟨[.t (.seq 5 ll101)], .bool true⟩,
  ⟨[.t (.seq 5 ll129)], .bool true⟩]
theorem lc1_0_ok : chkS (E.orc 40) 109 lc1_0 = true := by kernel_rfl
/- palimp/span.May, 802 operations -/
def lc1_1 : List MS := [
  ⟨[.t (.seq 2 [])], .bool true⟩,
  ⟨[.t (.seq 2 [[I 14, I 74]])], .bool true⟩,
  ⟨[.t (.seq 2 [[I 14, I 19]])], .bool true⟩,
  ⟨[.t (.nilS)], .bool true⟩,
  ⟨[.t (.seq 2 [[I 19, I 74]])], .bool true⟩,
  ⟨[.t (.seq 2 [[I 14, I 15], [I 19, I 25]])], .bool true⟩,
  ⟨[.t (.seq 2 [[I 15, I 19]])], .bool true⟩,
  ⟨[.t (.seq 2 [[I 14, I 94]])], .bool true⟩,
  ⟨[.t (.seq 2 [[I 19, I 94]])], .bool true⟩,
  ⟨[.t (.seq 2 [[I 14, I 15], [I 19, I 24]])], .bool true⟩,
  ⟨[.t (.seq 2 [[I 24, I 94]])], .bool true⟩,
  ⟨[.t (.seq 2 ll111)], .bool true⟩,
  ⟨[.t (.seq 2 [[I 20, I 24]])], .bool true⟩,
  ⟨[.t (.seq 2 [[I 29, I 94]])], .bool true⟩,
  ⟨[.t (.seq 2 ll140)], .bool true⟩,
  ⟨[.t (.seq 2 [[I 25, I 29]])], .bool true⟩,
  ⟨[.t (.seq 2 ll173)], .bool true⟩,
  ⟨[.t (.seq 2 [[I 26, I 29]])], .bool true⟩]
theorem lc1_1_ok : chkS (E.orc 40) 112 lc1_1 = true := by kernel_rfl
/- palimp/ptr.Put, 7840 operations -/
def lc1_2 : List MS := [
  ⟨[.t (.seq 6 ll1)], .str 88 0⟩,
  ⟨[.t (.seq 6 ll3)], lv4⟩,
  ⟨[.t (.seq 6 ll6)], lv7⟩,
  ⟨[.t (.seq 6 ll11)], lv12⟩,
  ⟨[.t (.seq 6 ll15)], lv16⟩,
  ⟨[.t (.seq 6 ll30)], lv31⟩,
  ⟨[.t (.seq 6 ll34)], lv35⟩,
  ⟨[.t (.seq 6 ll37)], lv38⟩,
  ⟨[.t (.seq 6 ll43)], lv44⟩,
  ⟨[.t (.seq 6 ll47)], lv48⟩,
  ⟨[.t (.seq 6 ll64)], lv65⟩,
  ⟨[.t (.seq 6 ll68)], lv69⟩,
  ⟨[.t (.seq 6 ll78)], lv79⟩,
  ⟨[.t (.seq 6 ll81)], lv82⟩,
  ⟨[.t (.seq 6 ll87)], lv88⟩,
  ⟨[.t (.seq 6 ll91)], lv92⟩,
  ⟨[.t (.seq 6 ll104)], lv105⟩,
  ⟨[.t (.seq 6 ll107)], lv108⟩,
  ⟨[.t (.seq 6 ll115)], lv116⟩,
  ⟨[.t (.seq 6 ll119)], lv120⟩,
  ⟨[.t (.seq 6 ll133)], lv134⟩,
  ⟨[.t (.seq 6 ll136)], lv137⟩,
  ⟨[.t (.seq 6 ll146)], lv147⟩,
  ⟨[.t (.seq 6 ll150)], lv151⟩,
  ⟨[.t (.seq 6 ll179)], lv180⟩,
  ⟨[.t (.seq 6 ll183)], lv184⟩]
theorem lc1_2_ok : chkS (E.orc 40) 130 lc1_2 = true := by kernel_rfl
/- palimp/rec.Node, 4680 operations -/
def lc1_3 : List MS := [
  ⟨[.agg [J 2, J 0, .str 0 0, .str 0 0, J 0], J 0, .t (.seq 6 ll1)], .str 93 2⟩,
  ⟨[.agg [J 1, J 0, .str 1 97, .str 2 26984, J 0], J 2, .t (.seq 6 ll30)], lv32⟩,
  ⟨[.agg [J 1, J 0, .str 1 97, .str 0 0, J 0], J 2, .t (.seq 6 ll30)], lv32⟩,
  ⟨[.agg [J 1, J 0, .str 1 97, .str 0 0, J 0], J 0, .t (.seq 6 ll1)], .str 94 0x61010001⟩,
  ⟨[.agg [J 1, J 0, .str 1 98, .str 0 0, J 0], J 0, .t (.seq 6 ll1)], .str 94 0x62010001⟩,
  ⟨[.agg [J 1, J 0, .str 1 99, .str 0 0, J 0], J 0, .t (.seq 6 ll1)], .str 94 0x63010001⟩]
theorem lc1_3_ok : chkS (E.orc 40) 223 lc1_3 = true := by kernel_rfl
/- palimp/block.Put, 2077 operations -/
def lc1_4 : List MS := [
  ⟨[.agg [J 2, J 1, .str 93 2]], lv2⟩,
  ⟨[.agg [J 3, J 1, lv4]], lv5⟩,
  ⟨[.agg [J 4, J 1, lv8]], lv9⟩,
  ⟨[.agg [J 5, J 1, .str 32 31]], lv10⟩,
  ⟨[.agg [J 6, J 1, lv13]], lv14⟩,
  ⟨[.agg [J 1, J 2, .str 32 26984]], lv29⟩,
  ⟨[.agg [J 2, J 2, lv32]], lv33⟩,
  ⟨[.agg [J 3, J 2, lv35]], lv36⟩,
  ⟨[.agg [J 4, J 2, lv39]], lv40⟩,
  ⟨[.agg [J 5, J 2, lv41]], lv42⟩,
  ⟨[.agg [J 6, J 2, lv45]], lv46⟩,
  ⟨[.agg [J 5, J 1, .str 40 31]], lv63⟩,
  ⟨[.agg [J 6, J 1, lv66]], lv67⟩,
  ⟨[.agg [J 2, J 2, .str 94 0x61010001]], lv77⟩,
  ⟨[.agg [J 3, J 2, lv79]], lv80⟩,
  ⟨[.agg [J 4, J 2, lv83]], lv84⟩,
  ⟨[.agg [J 5, J 2, lv85]], lv86⟩,
  ⟨[.agg [J 6, J 2, lv89]], lv90⟩,
  ⟨[.agg [J 2, J 3, .str 94 0x62010001]], lv103⟩,
  ⟨[.agg [J 3, J 3, lv105]], lv106⟩,
  ⟨[.agg [J 4, J 3, lv109]], lv110⟩,
  ⟨[.agg [J 5, J 3, lv113]], lv114⟩,
  ⟨[.agg [J 6, J 3, lv117]], lv118⟩,
  ⟨[.agg [J 2, J 4, .str 94 0x63010001]], lv132⟩,
  ⟨[.agg [J 3, J 4, lv134]], lv135⟩,
  ⟨[.agg [J 4, J 4, lv138]], lv139⟩,
  ⟨[.agg [J 5, J 4, lv144]], lv145⟩,
  ⟨[.agg [J 6, J 4, lv148]], lv149⟩,
  ⟨[.agg [J 4, J 5, lv109]], lv172⟩,
  ⟨[.agg [J 5, J 5, lv177]], lv178⟩,
  ⟨[.agg [J 6, J 5, lv181]], lv182⟩]
theorem lc1_4_ok : chkS (E.orc 40) 78 lc1_4 = true := by kernel_rfl
/- palimp/smap.Put, 23904 operations -/
def lc1_5 : List MS := [
  ⟨[J 60, .t (.seq 2 [[I 14, I 19]])], .str 8 31⟩,
  ⟨[J 60, .t (.nilS)], .str 8 0⟩,
  ⟨[J 60, .t (.seq 2 [])], .str 8 0⟩,
  ⟨[J 60, .t (.seq 2 [[I 14, I 15], [I 19, I 25]])], .str 8 2017⟩,
  ⟨[J 60, .t (.seq 2 [[I 15, I 19]])], .str 8 30⟩,
  ⟨[J 80, .t (.seq 2 [[I 14, I 19]])], .str 10 31⟩]
theorem lc1_5_ok : chkS (E.orc 40) 127 lc1_5 = true := by kernel_rfl
/- palimp/smap.Put, 18611 operations -/
def lc1_6 : List MS := [
  ⟨[J 80, .t (.nilS)], .str 10 0⟩,
  ⟨[J 80, .t (.seq 2 [])], .str 10 0⟩,
  ⟨[J 80, .t (.seq 2 [[I 14, I 15], [I 19, I 24]])], .str 10 993⟩,
  ⟨[J 80, .t (.seq 2 [[I 15, I 19]])], .str 10 30⟩]
theorem lc1_6_ok : chkS (E.orc 40) 127 lc1_6 = true := by kernel_rfl
/- palimp/smap.Put, 16849 operations -/
def lc1_7 : List MS := [
  ⟨[J 80, .t (.seq 2 ll111)], .str 10 31777⟩,
  ⟨[J 80, .t (.seq 2 [[I 20, I 24]])], .str 10 960⟩]
theorem lc1_7_ok : chkS (E.orc 40) 127 lc1_7 = true := by kernel_rfl
/- palimp/smap.Put, 19999 operations -/
def lc1_8 : List MS := [
  ⟨[J 80, .t (.seq 2 ll140)], .str 10 0xf8421⟩,
  ⟨[J 80, .t (.seq 2 [[I 25, I 29]])], .str 10 30720⟩]
theorem lc1_8_ok : chkS (E.orc 40) 127 lc1_8 = true := by kernel_rfl
/- palimp/smap.Put, 19948 operations -/
def lc1_9 : List MS := [
  ⟨[J 80, .t (.seq 2 ll173)], .str 10 0x38c21⟩,
  ⟨[J 80, .t (.seq 2 [[I 26, I 29]])], .str 10 28672⟩]
theorem lc1_9_ok : chkS (E.orc 40) 127 lc1_9 = true := by kernel_rfl
/- palimp/uber.Put, 1939 operations -/
def lc1_10 : List MS := [
  ⟨[.agg [J 1, J 7, J 1, J 18, J 1, U 0xc18b8899, U 0xcfba61f9, U 0x751fce33, U 0xde7fedc4]], lv17⟩,
  ⟨[.agg [J 2, J 7, J 2, J 24, J 2, U 0xa0b4ea1a, U 0xfcd9e230, U 0xc147f66d, U 0xa0816dc0]], lv49⟩,
  ⟨[.agg [J 1, J 7, J 1, J 18, J 1, U 0x578b8899, U 0x5eba6201, U 0xe21fcfd3, U 0x888018d4]], lv70⟩,
  ⟨[.agg [J 2, J 7, J 2, J 23, J 2, U 0x64b30f0d, U 0x83a15acf, U 0xda1a5ab1, U 0xaeb326a8]], lv93⟩,
  ⟨[.agg [J 3, J 7, J 3, J 28, J 3, U 0xd513be73, U 0xf3f7c840, U 0xaad5a86d, U 0x500cee83]], lv121⟩,
  ⟨[.agg [J 4, J 7, J 4, J 33, J 4, U 0x977081b3, U 0x907fbb20, U 0x197cb0f2, U 0xc465f18c]], lv152⟩,
  ⟨[.agg [J 5, J 7, J 4, J 31, J 5, U 0xc0a0fee3, U 0x44bd682c, U 0x90b0200e, U 0x946c75a1]], lv185⟩]
theorem lc1_10_ok : chkS (E.orc 40) 134 lc1_10 = true := by kernel_rfl
/- palimp/data.Parts, 400 operations -/
def lc1_11 : List MS := [
  ⟨[.str 0 0], J 0⟩,
  ⟨[.str 2 26984], J 1⟩]
theorem lc1_11_ok : chkS (E.orc 40) 139 lc1_11 = true := by kernel_rfl
/- palimp/uber.Take, 4043 operations -/
def lc1_12 : List MS := [
  ⟨[.str 256 0], .tup [.agg [J 0, J 0, J 0, J 0, J 0, U 0, U 0, U 0, U 0], .bool false]⟩,
  ⟨[lv17], .tup [.agg [J 1, J 7, J 1, J 18, J 1, U 0xc18b8899, U 0xcfba61f9, U 0x751fce33, U 0xde7fedc4], .bool true]⟩,
  ⟨[lv49], .tup [.agg [J 2, J 7, J 2, J 24, J 2, U 0xa0b4ea1a, U 0xfcd9e230, U 0xc147f66d, U 0xa0816dc0], .bool true]⟩,
  ⟨[lv70], .tup [.agg [J 1, J 7, J 1, J 18, J 1, U 0x578b8899, U 0x5eba6201, U 0xe21fcfd3, U 0x888018d4], .bool true]⟩,
  ⟨[lv93], .tup [.agg [J 2, J 7, J 2, J 23, J 2, U 0x64b30f0d, U 0x83a15acf, U 0xda1a5ab1, U 0xaeb326a8], .bool true]⟩,
  ⟨[lv121], .tup [.agg [J 3, J 7, J 3, J 28, J 3, U 0xd513be73, U 0xf3f7c840, U 0xaad5a86d, U 0x500cee83], .bool true]⟩,
  ⟨[lv152], .tup [.agg [J 4, J 7, J 4, J 33, J 4, U 0x977081b3, U 0x907fbb20, U 0x197cb0f2, U 0xc465f18c], .bool true]⟩]
theorem lc1_12_ok : chkS (E.orc 40) 207 lc1_12 = true := by kernel_rfl
/- palimp/span.Less, 24957 operations -/
def lc1_13 : List MP := [
  ⟨[.t (.seq 2 []), .t (.seq 2 [[I 14, I 74]])], .t (.nilS), []⟩,
  ⟨[.t (.seq 2 [[I 14, I 74]]), .t (.seq 2 [])], .tok 0 2 0 1, [.row 2 1 [[I 14, I 74]] false]⟩,
  ⟨[.t (.seq 2 []), .t (.seq 2 [[I 14, I 19]])], .t (.nilS), []⟩,
  ⟨[.t (.nilS), .t (.nilS)], .t (.nilS), []⟩,
  ⟨[.t (.seq 2 [[I 14, I 19]]), .t (.seq 2 [[I 14, I 74]])], .t (.nilS), []⟩,
  ⟨[.t (.nilS), .t (.seq 2 [[I 14, I 74]])], .t (.nilS), []⟩,
  ⟨[.t (.seq 2 [[I 14, I 74]]), .t (.seq 2 [[I 14, I 19]])], .tok 0 2 0 1, [.row 2 1 [[I 19, I 74]] false]⟩,
  ⟨[.t (.seq 2 [[I 19, I 74]]), .t (.seq 2 [])], .tok 0 2 0 1, [.row 2 1 [[I 19, I 74]] false]⟩,
  ⟨[.t (.seq 2 [[I 14, I 19]]), .t (.seq 2 [[I 14, I 15], [I 19, I 25]])], .tok 0 2 0 1, [.row 2 1 [[I 15, I 19]] false]⟩,
  ⟨[.t (.seq 2 []), .t (.seq 2 [[I 14, I 15], [I 19, I 25]])], .t (.nilS), []⟩,
  ⟨[.t (.nilS), .t (.seq 2 [[I 15, I 19]])], .t (.nilS), []⟩,
  ⟨[.t (.seq 2 [[I 14, I 15], [I 19, I 25]]), .t (.seq 2 [[I 14, I 74]])], .t (.nilS), []⟩,
  ⟨[.t (.seq 2 [[I 15, I 19]]), .t (.seq 2 [[I 14, I 74]])], .t (.nilS), []⟩,
  ⟨[.t (.seq 2 [[I 14, I 74]]), .t (.seq 2 [[I 14, I 15], [I 19, I 25]])], .tok 0 2 0 2, [.row 2 2 [[I 15, I 19], [I 25, I 74]] false]⟩,
  ⟨[.t (.seq 2 [[I 15, I 19], [I 25, I 74]]), .t (.seq 2 [[I 15, I 19]])], .tok 0 2 0 1, [.row 2 1 [[I 25, I 74]] false]⟩,
  ⟨[.t (.seq 2 [[I 25, I 74]]), .t (.nilS)], .tok 0 2 0 1, [.row 2 1 [[I 25, I 74]] false]⟩,
  ⟨[.t (.seq 2 [[I 25, I 74]]), .t (.seq 2 [])], .tok 0 2 0 1, [.row 2 1 [[I 25, I 74]] false]⟩,
  ⟨[.t (.seq 2 []), .t (.seq 2 [[I 14, I 94]])], .t (.nilS), []⟩,
  ⟨[.t (.seq 2 [[I 14, I 94]]), .t (.seq 2 [])], .tok 0 2 0 1, [.row 2 1 [[I 14, I 94]] false]⟩,
  ⟨[.t (.seq 2 [[I 14, I 19]]), .t (.seq 2 [[I 14, I 94]])], .t (.nilS), []⟩,
  ⟨[.t (.nilS), .t (.seq 2 [[I 14, I 94]])], .t (.nilS), []⟩,
  ⟨[.t (.seq 2 [[I 14, I 94]]), .t (.seq 2 [[I 14, I 19]])], .tok 0 2 0 1, [.row 2 1 [[I 19, I 94]] false]⟩,
  ⟨[.t (.seq 2 [[I 19, I 94]]), .t (.seq 2 [])], .tok 0 2 0 1, [.row 2 1 [[I 19, I 94]] false]⟩,
  ⟨[.t (.seq 2 [[I 14, I 19]]), .t (.seq 2 [[I 14, I 15], [I 19, I 24]])], .tok 0 2 0 1, [.row 2 1 [[I 15, I 19]] false]⟩,
  ⟨[.t (.seq 2 []), .t (.seq 2 [[I 14, I 15], [I 19, I 24]])], .t (.nilS), []⟩,
  ⟨[.t (.seq 2 [[I 14, I 15], [I 19, I 24]]), .t (.seq 2 [[I 14, I 94]])], .t (.nilS), []⟩,
  ⟨[.t (.seq 2 [[I 15, I 19]]), .t (.seq 2 [[I 14, I 94]])], .t (.nilS), []⟩,
  ⟨[.t (.seq 2 [[I 14, I 94]]), .t (.seq 2 [[I 14, I 15], [I 19, I 24]])], .tok 0 2 0 2, [.row 2 2 [[I 15, I 19], [I 24, I 94]] false]⟩,
  ⟨[.t (.seq 2 [[I 15, I 19], [I 24, I 94]]), .t (.seq 2 [[I 15, I 19]])], .tok 0 2 0 1, [.row 2 1 [[I 24, I 94]] false]⟩,
  ⟨[.t (.seq 2 [[I 24, I 94]]), .t (.nilS)], .tok 0 2 0 1, [.row 2 1 [[I 24, I 94]] false]⟩,
  ⟨[.t (.seq 2 [[I 24, I 94]]), .t (.seq 2 [])], .tok 0 2 0 1, [.row 2 1 [[I 24, I 94]] false]⟩,
  ⟨[.t (.seq 2 [[I 14, I 15], [I 19, I 24]]), .t (.seq 2 ll111)], .tok 0 2 0 1, [.row 2 1 [[I 20, I 24]] false]⟩,
  ⟨[.t (.seq 2 [[I 15, I 19]]), .t (.seq 2 ll111)], .tok 0 2 0 1, [.row 2 1 [[I 15, I 19]] false]⟩,
  ⟨[.t (.seq 2 [[I 15, I 19]]), .t (.seq 2 [[I 20, I 24]])], .tok 0 2 0 1, [.row 2 1 [[I 15, I 19]] false]⟩,
  ⟨[.t (.seq 2 ll111), .t (.seq 2 [[I 14, I 94]])], .t (.nilS), []⟩,
  ⟨[.t (.seq 2 [[I 20, I 24]]), .t (.seq 2 [[I 14, I 94]])], .t (.nilS), []⟩,
  ⟨[.t (.seq 2 [[I 14, I 94]]), .t (.seq 2 ll111)], .tok 0 2 0 3, [.row 2 3 ll112 false]⟩,
  ⟨[.t (.seq 2 ll112), .t (.seq 2 [[I 20, I 24]])], .tok 0 2 0 2, [.row 2 2 [[I 15, I 19], [I 29, I 94]] false]⟩,
  ⟨[.t (.seq 2 [[I 15, I 19], [I 29, I 94]]), .t (.seq 2 [[I 15, I 19]])], .tok 0 2 0 1, [.row 2 1 [[I 29, I 94]] false]⟩,
  ⟨[.t (.seq 2 [[I 29, I 94]]), .t (.seq 2 [])], .tok 0 2 0 1, [.row 2 1 [[I 29, I 94]] false]⟩,
  ⟨[.t (.seq 2 ll111), .t (.seq 2 ll140)], .tok 0 2 0 1, [.row 2 1 [[I 25, I 29]] false]⟩,
  ⟨[.t (.seq 2 [[I 20, I 24]]), .t (.seq 2 ll140)], .tok 0 2 0 1, [.row 2 1 [[I 20, I 24]] false]⟩,
  ⟨[.t (.seq 2 [[I 20, I 24]]), .t (.seq 2 [[I 25, I 29]])], .tok 0 2 0 1, [.row 2 1 [[I 20, I 24]] false]⟩]
theorem lc1_13_ok : chkP (E.orc 40) 124 lc1_13 = true := by kernel_rfl
/- palimp/span.Less, 19574 operations -/
def lc1_14 : List MP := [
  ⟨[.t (.seq 2 ll140), .t (.seq 2 [[I 14, I 94]])], .t (.nilS), []⟩,
  ⟨[.t (.seq 2 [[I 25, I 29]]), .t (.seq 2 [[I 14, I 94]])], .t (.nilS), []⟩,
  ⟨[.t (.seq 2 [[I 14, I 94]]), .t (.seq 2 ll140)], .tok 0 2 0 4, [.row 2 4 ll142 false]⟩,
  ⟨[.t (.seq 2 ll142), .t (.seq 2 [[I 25, I 29]])], .tok 0 2 0 3, [.row 2 3 ll143 false]⟩,
  ⟨[.t (.seq 2 ll143), .t (.seq 2 [[I 20, I 24]])], .tok 0 2 0 2, [.row 2 2 [[I 15, I 19], [I 34, I 94]] false]⟩,
  ⟨[.t (.seq 2 [[I 15, I 19], [I 34, I 94]]), .t (.seq 2 [])], .tok 0 2 0 2, [.row 2 2 [[I 15, I 19], [I 34, I 94]] false]⟩,
  ⟨[.t (.seq 2 ll111), .t (.seq 2 ll173)], .tok 0 2 0 1, [.row 2 1 [[I 26, I 29]] false]⟩,
  ⟨[.t (.seq 2 [[I 20, I 24]]), .t (.seq 2 ll173)], .tok 0 2 0 1, [.row 2 1 [[I 20, I 24]] false]⟩,
  ⟨[.t (.seq 2 [[I 20, I 24]]), .t (.seq 2 [[I 26, I 29]])], .tok 0 2 0 1, [.row 2 1 [[I 20, I 24]] false]⟩,
  ⟨[.t (.seq 2 ll173), .t (.seq 2 [[I 14, I 94]])], .t (.nilS), []⟩,
  ⟨[.t (.seq 2 [[I 26, I 29]]), .t (.seq 2 [[I 14, I 94]])], .t (.nilS), []⟩,
  ⟨[.t (.seq 2 [[I 14, I 94]]), .t (.seq 2 ll173)], .tok 0 2 0 4, [.row 2 4 ll175 false]⟩,
  ⟨[.t (.seq 2 ll175), .t (.seq 2 [[I 26, I 29]])], .tok 0 2 0 3, [.row 2 3 ll176 false]⟩,
  ⟨[.t (.seq 2 ll176), .t (.seq 2 [[I 20, I 24]])], .tok 0 2 0 2, [.row 2 2 [[I 15, I 19], [I 32, I 94]] false]⟩,
  ⟨[.t (.seq 2 [[I 15, I 19], [I 32, I 94]]), .t (.seq 2 [])], .tok 0 2 0 2, [.row 2 2 [[I 15, I 19], [I 32, I 94]] false]⟩]
theorem lc1_14_ok : chkP (E.orc 40) 124 lc1_14 = true := by kernel_rfl
/- palimp/span.Both, 9358 operations -/
def lc1_15 : List MP := [
  ⟨[.t (.seq 2 []), .t (.seq 2 [])], .t (.nilS), []⟩,
  ⟨[.t (.nilS), .t (.seq 2 [])], .t (.nilS), []⟩,
  ⟨[.t (.seq 2 [[I 14, I 19]]), .t (.nilS)], .t (.nilS), []⟩,
  ⟨[.t (.seq 2 [[I 14, I 19]]), .t (.seq 2 [])], .t (.nilS), []⟩,
  ⟨[.t (.seq 2 [[I 14, I 15], [I 19, I 25]]), .t (.seq 2 [[I 15, I 19]])], .t (.nilS), []⟩,
  ⟨[.t (.seq 2 [[I 14, I 25]]), .t (.nilS)], .t (.nilS), []⟩,
  ⟨[.t (.seq 2 [[I 14, I 15], [I 19, I 24]]), .t (.seq 2 [[I 15, I 19]])], .t (.nilS), []⟩,
  ⟨[.t (.seq 2 [[I 14, I 24]]), .t (.nilS)], .t (.nilS), []⟩,
  ⟨[.t (.seq 2 [[I 14, I 24]]), .t (.seq 2 [])], .t (.nilS), []⟩,
  ⟨[.t (.seq 2 ll111), .t (.seq 2 [[I 20, I 24]])], .t (.nilS), []⟩,
  ⟨[.t (.seq 2 [[I 14, I 15], [I 19, I 29]]), .t (.seq 2 [[I 15, I 19]])], .t (.nilS), []⟩,
  ⟨[.t (.seq 2 ll140), .t (.seq 2 [[I 25, I 29]])], .t (.nilS), []⟩,
  ⟨[.t (.seq 2 ll141), .t (.seq 2 [[I 20, I 24]])], .t (.nilS), []⟩,
  ⟨[.t (.seq 2 ll173), .t (.seq 2 [[I 26, I 29]])], .t (.nilS), []⟩,
  ⟨[.t (.seq 2 ll174), .t (.seq 2 [[I 20, I 24]])], .t (.nilS), []⟩]
theorem lc1_15_ok : chkP (E.orc 40) 174 lc1_15 = true := by kernel_rfl
/- palimp/span.Add, 6782 operations -/
def lc1_16 : List MP := [
  ⟨[.t (.seq 2 []), .t (.seq 2 [])], .t (.nilS), []⟩,
  ⟨[.t (.seq 2 [[I 14, I 19]]), .t (.nilS)], .tok 0 2 0 1, [.row 2 1 [[I 14, I 19]] false]⟩,
  ⟨[.t (.seq 2 [[I 14, I 19]]), .t (.seq 2 [])], .tok 0 2 0 1, [.row 2 1 [[I 14, I 19]] false]⟩,
  ⟨[.t (.seq 2 [[I 14, I 15], [I 19, I 25]]), .t (.seq 2 [[I 15, I 19]])], .tok 0 2 0 1, [.row 2 1 [[I 14, I 25]] false]⟩,
  ⟨[.t (.seq 2 [[I 14, I 15], [I 19, I 24]]), .t (.seq 2 [[I 15, I 19]])], .tok 0 2 0 1, [.row 2 1 [[I 14, I 24]] false]⟩,
  ⟨[.t (.seq 2 ll111), .t (.seq 2 [[I 20, I 24]])], .tok 0 2 0 2, [.row 2 2 [[I 14, I 15], [I 19, I 29]] false]⟩,
  ⟨[.t (.seq 2 ll140), .t (.seq 2 [[I 25, I 29]])], .tok 0 2 0 3, [.row 2 3 ll141 false]⟩,
  ⟨[.t (.seq 2 ll173), .t (.seq 2 [[I 26, I 29]])], .tok 0 2 0 3, [.row 2 3 ll174 false]⟩]
theorem lc1_16_ok : chkP (E.orc 40) 175 lc1_16 = true := by kernel_rfl
/- palimp/ptr.Take, 16206 operations -/
def lc1_17 : List MP := [
  ⟨[lv28, J 3], .tup [.tok 0 6 0 3, .str 4 0, .bool true], [.row 6 3 ll11 false]⟩,
  ⟨[lv7, J 1], .tup [.tok 0 6 0 1, .str 0 0, .bool true], [.row 6 1 ll6 false]⟩,
  ⟨[lv4, J 8], .tup [.tok 0 6 0 8, .str 0 0, .bool true], [.row 6 8 ll3 false]⟩,
  ⟨[.str 88 0, J 4], .tup [.tok 0 6 0 4, .str 0 0, .bool true], [.row 6 4 ll1 false]⟩,
  ⟨[.str 246 0, J 1], .tup [.tok 0 6 0 1, .str 224 0, .bool true], [.row 6 1 [[I 0, I 0, W 0, W 0, W 0, W 0]] false]⟩,
  ⟨[lv58, J 1], .tup [.tok 0 6 0 1, lv59, .bool true], [.row 6 1 ll15 false]⟩,
  ⟨[lv60, J 1], .tup [.tok 0 6 0 1, lv61, .bool true], [.row 6 1 ll47 false]⟩,
  ⟨[lv62, J 3], .tup [.tok 0 6 0 3, .str 4 0, .bool true], [.row 6 3 ll43 false]⟩,
  ⟨[lv38, J 1], .tup [.tok 0 6 0 1, .str 0 0, .bool true], [.row 6 1 ll37 false]⟩,
  ⟨[lv35, J 8], .tup [.tok 0 6 0 8, .str 0 0, .bool true], [.row 6 8 ll34 false]⟩,
  ⟨[lv31, J 4], .tup [.tok 0 6 0 4, .str 0 0, .bool true], [.row 6 4 ll30 false]⟩,
  ⟨[lv76, J 3], .tup [.tok 0 6 0 3, .str 4 0, .bool true], [.row 6 3 ll64 false]⟩,
  ⟨[lv102, J 3], .tup [.tok 0 6 0 3, .str 4 0, .bool true], [.row 6 3 ll87 false]⟩,
  ⟨[lv82, J 1], .tup [.tok 0 6 0 1, .str 0 0, .bool true], [.row 6 1 ll81 false]⟩,
  ⟨[lv79, J 8], .tup [.tok 0 6 0 8, .str 0 0, .bool true], [.row 6 8 ll78 false]⟩,
  ⟨[lv130, J 3], .tup [.tok 0 6 0 3, .str 4 0, .bool true], [.row 6 3 ll115 false]⟩,
  ⟨[lv108, J 1], .tup [.tok 0 6 0 1, .str 0 0, .bool true], [.row 6 1 ll107 false]⟩,
  ⟨[lv105, J 8], .tup [.tok 0 6 0 8, .str 0 0, .bool true], [.row 6 8 ll104 false]⟩,
  ⟨[lv160, J 1], .tup [.tok 0 6 0 1, lv161, .bool true], [.row 6 1 ll68 false]⟩,
  ⟨[lv162, J 1], .tup [.tok 0 6 0 1, lv163, .bool true], [.row 6 1 ll91 false]⟩,
  ⟨[lv164, J 1], .tup [.tok 0 6 0 1, lv165, .bool true], [.row 6 1 ll119 false]⟩,
  ⟨[lv166, J 1], .tup [.tok 0 6 0 1, lv167, .bool true], [.row 6 1 ll150 false]⟩,
  ⟨[lv168, J 3], .tup [.tok 0 6 0 3, .str 4 0, .bool true], [.row 6 3 ll146 false]⟩,
  ⟨[lv137, J 1], .tup [.tok 0 6 0 1, .str 0 0, .bool true], [.row 6 1 ll136 false]⟩,
  ⟨[lv134, J 8], .tup [.tok 0 6 0 8, .str 0 0, .bool true], [.row 6 8 ll133 false]⟩]
theorem lc1_17_ok : chkP (E.orc 40) 252 lc1_17 = true := by kernel_rfl
/- palimp/rec.TakeNode, 8295 operations -/
def lc1_18 : List MP := [
  ⟨[.str 93 2], .tup [.agg [J 2, J 0, .str 0 0, .str 0 0, J 0], J 0, .tok 0 6 0 4, .bool true], [.row 6 4 ll1 false]⟩,
  ⟨[lv32], .tup [.agg [J 1, J 0, .str 1 97, .str 0 0, J 0], J 2, .tok 0 6 0 4, .bool true], [.row 6 4 ll30 false]⟩,
  ⟨[.str 94 0x61010001], .tup [.agg [J 1, J 0, .str 1 97, .str 0 0, J 0], J 0, .tok 0 6 0 4, .bool true], [.row 6 4 ll1 false]⟩,
  ⟨[.str 94 0x62010001], .tup [.agg [J 1, J 0, .str 1 98, .str 0 0, J 0], J 0, .tok 0 6 0 4, .bool true], [.row 6 4 ll1 false]⟩,
  ⟨[.str 94 0x63010001], .tup [.agg [J 1, J 0, .str 1 99, .str 0 0, J 0], J 0, .tok 0 6 0 4, .bool true], [.row 6 4 ll1 false]⟩]
theorem lc1_18_ok : chkP (E.orc 40) 318 lc1_18 = true := by kernel_rfl
/- palimp/smap.Take, 23417 operations -/
def lc1_19 : List MP := [
  ⟨[J 60, .str 32 31], .tup [.tok 0 2 0 1, .str 24 0, .bool true], [.row 2 1 [[I 14, I 19]] false]⟩,
  ⟨[J 60, .str 24 0], .tup [.t (.nilS), .str 16 0, .bool true], []⟩,
  ⟨[J 60, .str 16 0], .tup [.t (.nilS), .str 8 0, .bool true], []⟩,
  ⟨[J 60, .str 8 0], .tup [.t (.nilS), .str 0 0, .bool true], []⟩,
  ⟨[J 60, lv41], .tup [.tok 0 2 0 2, .str 24 30, .bool true], [.row 2 2 [[I 14, I 15], [I 19, I 25]] false]⟩,
  ⟨[J 60, .str 24 30], .tup [.tok 0 2 0 1, .str 16 0, .bool true], [.row 2 1 [[I 15, I 19]] false]⟩,
  ⟨[J 80, .str 40 31], .tup [.tok 0 2 0 1, .str 30 0, .bool true], [.row 2 1 [[I 14, I 19]] false]⟩,
  ⟨[J 80, .str 30 0], .tup [.t (.nilS), .str 20 0, .bool true], []⟩,
  ⟨[J 80, .str 20 0], .tup [.t (.nilS), .str 10 0, .bool true], []⟩,
  ⟨[J 80, .str 10 0], .tup [.t (.nilS), .str 0 0, .bool true], []⟩,
  ⟨[J 80, lv85], .tup [.tok 0 2 0 2, .str 30 30, .bool true], [.row 2 2 [[I 14, I 15], [I 19, I 24]] false]⟩,
  ⟨[J 80, .str 30 30], .tup [.tok 0 2 0 1, .str 20 0, .bool true], [.row 2 1 [[I 15, I 19]] false]⟩,
  ⟨[J 80, lv113], .tup [.tok 0 2 0 3, lv131, .bool true], [.row 2 3 ll111 false]⟩,
  ⟨[J 80, lv131], .tup [.tok 0 2 0 1, .str 20 30, .bool true], [.row 2 1 [[I 20, I 24]] false]⟩,
  ⟨[J 80, .str 20 30], .tup [.tok 0 2 0 1, .str 10 0, .bool true], [.row 2 1 [[I 15, I 19]] false]⟩,
  ⟨[J 80, lv144], .tup [.tok 0 2 0 4, lv169, .bool true], [.row 2 4 ll140 false]⟩,
  ⟨[J 80, lv169], .tup [.tok 0 2 0 1, .str 20 960, .bool true], [.row 2 1 [[I 25, I 29]] false]⟩,
  ⟨[J 80, .str 20 960], .tup [.tok 0 2 0 1, .str 10 0, .bool true], [.row 2 1 [[I 20, I 24]] false]⟩]
theorem lc1_19_ok : chkP (E.orc 40) 248 lc1_19 = true := by kernel_rfl
noncomputable def lM1 : Memo := ⟨[109, 112, 124, 174, 175, 130, 223, 78, 127, 134, 139, 252, 318, 248, 207], [(109, lc1_0), (112, lc1_1), (130, lc1_2), (223, lc1_3), (78, lc1_4), (127, lc1_5), (127, lc1_6), (127, lc1_7), (127, lc1_8), (127, lc1_9), (134, lc1_10), (139, lc1_11), (207, lc1_12)], [(124, lc1_13), (124, lc1_14), (174, lc1_15), (175, lc1_16), (252, lc1_17), (318, lc1_18), (248, lc1_19)]⟩
noncomputable def lE2 : Env := E.withM 40 lM1
theorem lE2_ok : EnvOk Proofs.Tryz.prog lE2 := withM_ok E_ok ⟨lc1_0_ok, lc1_1_ok, lc1_2_ok, lc1_3_ok, lc1_4_ok, lc1_5_ok, lc1_6_ok, lc1_7_ok, lc1_8_ok, lc1_9_ok, lc1_10_ok, lc1_11_ok, lc1_12_ok, trivial⟩ ⟨lc1_13_ok, lc1_14_ok, lc1_15_ok, lc1_16_ok, lc1_17_ok, lc1_18_ok, lc1_19_ok, trivial⟩
/- palimp/pool.Create, 26579 operations -/
def lc2_0 : List MP := [
  ⟨[J 60, J 7], .tup [.agg [.tok 0 1 0 88, .t (.nilS), J 0, J 0, .bool false, J 18, J 1, U 0xc18b8899, U 0xcfba61f9, U 0x751fce33, U 0xde7fedc4, J 1, J 2, J 7, J 16, J 1, U 0x9770367c, U 0x25659d11, U 0xe1c08a78, U 0x9021ca78, J 17, J 1, U 0x1f200006, U 0xa8e0017f, U 0x1c003080, U 0xb4042860, J 0, J 0, U 0, U 0, U 0, U 0, J 0, .tok 1 2 0 1, .t (.nilS), .t (.nilS), .tok 2 2 0 0, J 1, J 1, .tok 3 5 0 1, .bool false], .bool true], [.row 1 88 ll25 false, .row 2 1 [[I 14, I 19]] false, .row 2 0 [] false, .row 5 1 [[I 1, I 1, I 0, I 0, .seq 5 ll0]] true]⟩]
theorem lc2_0_ok : chkP (lE2.orc 40) 13 lc2_0 = true := by kernel_rfl
/- palimp/pool.Create, 30039 operations -/
def lc2_1 : List MP := [
  ⟨[J 80, J 7], .tup [.agg [.tok 0 1 0 108, .t (.nilS), J 0, J 0, .bool false, J 18, J 1, U 0x578b8899, U 0x5eba6201, U 0xe21fcfd3, U 0x888018d4, J 1, J 2, J 7, J 16, J 1, U 0x9770367c, U 0x25659d11, U 0xe1c08a78, U 0x9021ca78, J 17, J 1, U 0x1f280006, U 0xaad8017f, U 0x5b003080, U 0x9042860, J 0, J 0, U 0, U 0, U 0, U 0, J 0, .tok 1 2 0 1, .t (.nilS), .t (.nilS), .tok 2 2 0 0, J 1, J 1, .tok 3 5 0 1, .bool false], .bool true], [.row 1 108 ll75 false, .row 2 1 [[I 14, I 19]] false, .row 2 0 [] false, .row 5 1 [[I 1, I 1, I 0, I 0, .seq 5 ll0]] true]⟩]
theorem lc2_1_ok : chkP (lE2.orc 40) 13 lc2_1 = true := by kernel_rfl
/- palimp/play.Do, 64537 operations -/
def lc2_2 : List MP := [
  ⟨[.agg [.t (.seq 1 ll25), .t (.seq 2 []), J 0, J 0, .bool false, J 18, J 1, U 0xc18b8899, U 0xcfba61f9, U 0x751fce33, U 0xde7fedc4, J 1, J 2, J 7, J 16, J 1, U 0x9770367c, U 0x25659d11, U 0xe1c08a78, U 0x9021ca78, J 17, J 1, U 0x1f200006, U 0xa8e0017f, U 0x1c003080, U 0xb4042860, J 0, J 0, U 0, U 0, U 0, U 0, J 0, .t (.seq 2 [[I 14, I 19]]), .t (.seq 2 []), .t (.seq 2 []), .t (.seq 2 []), J 1, J 1, .t (.seq 5 [[I 1, I 1, I 0, I 0, .seq 5 ll27]]), .bool false], .agg [J 15, J 0, J 0, J 0, J 0, .str 0 0, .str 0 0, .str 0 0, .t (.nilS)]], .tup [.agg [.tok 0 1 0 88, .t (.nilS), J 0, J 0, .bool false, J 24, J 2, U 0xa0b4ea1a, U 0xfcd9e230, U 0xc147f66d, U 0xa0816dc0, J 2, J 2, J 7, J 22, J 2, U 0x24fffd77, U 0x9a56d25, U 0xec520d4e, U 0x19c28e07, J 23, J 2, U 0xff20000e, U 0x8ce00370, U 0x76006dc7, U 0x96094640, J 0, J 0, U 0, U 0, U 0, U 0, J 0, .tok 1 2 0 2, .tok 2 2 0 1, .t (.nilS), .tok 3 2 0 0, J 2, J 2, .tok 4 5 0 1, .bool false], .agg [J 0, .str 0 0, J 0, J 0, J 0, J 0, .t (.nilS), J 2]], [.row 1 88 ll57 false, .row 2 2 [[I 14, I 15], [I 19, I 25]] false, .row 2 1 [[I 15, I 19]] true, .row 2 0 [] false, .row 5 1 [[I 1, I 1, I 0, I 0, .seq 5 ll27]] true]⟩]
theorem lc2_2_ok : chkP (lE2.orc 40) 14 lc2_2 = true := by kernel_rfl
/- palimp/play.Do, 47885 operations -/
def lc2_3 : List MP := [
  ⟨[.agg [.t (.seq 1 ll57), .t (.nilS), J 0, J 0, .bool false, J 0, J 0, U 0, U 0, U 0, U 0, J 0, J 0, J 0, J 0, J 0, U 0, U 0, U 0, U 0, J 0, J 0, U 0, U 0, U 0, U 0, J 0, J 0, U 0, U 0, U 0, U 0, J 0, .t (.nilS), .t (.nilS), .t (.nilS), .t (.nilS), J 0, J 0, .t (.nilS), .bool false], .agg [J 18, J 0, J 0, J 0, J 0, .str 0 0, .str 0 0, .str 0 0, .t (.nilS)]], .tup [.agg [.tok 0 1 0 88, .tok 1 2 0 0, J 0, J 0, .bool false, J 24, J 2, U 0xa0b4ea1a, U 0xfcd9e230, U 0xc147f66d, U 0xa0816dc0, J 2, J 2, J 7, J 22, J 2, U 0x24fffd77, U 0x9a56d25, U 0xec520d4e, U 0x19c28e07, J 23, J 2, U 0xff20000e, U 0x8ce00370, U 0x76006dc7, U 0x96094640, J 0, J 0, U 0, U 0, U 0, U 0, J 0, .t (.seq 2 [[I 14, I 15], [I 19, I 25]]), .t (.seq 2 [[I 15, I 19]]), .t (.nilS), .t (.nilS), J 2, J 2, .t (.seq 5 [[I 1, I 1, I 0, I 0, .seq 5 ll27]]), .bool false], .agg [J 0, .str 0 0, J 0, J 0, J 0, J 0, .t (.nilS), J 2]], [.row 1 88 ll57 false, .row 2 0 [] false]⟩]
theorem lc2_3_ok : chkP (lE2.orc 40) 14 lc2_3 = true := by kernel_rfl
/- palimp/play.Do, 72274 operations -/
def lc2_4 : List MP := [
  ⟨[.agg [.t (.seq 1 ll75), .t (.seq 2 []), J 0, J 0, .bool false, J 18, J 1, U 0x578b8899, U 0x5eba6201, U 0xe21fcfd3, U 0x888018d4, J 1, J 2, J 7, J 16, J 1, U 0x9770367c, U 0x25659d11, U 0xe1c08a78, U 0x9021ca78, J 17, J 1, U 0x1f280006, U 0xaad8017f, U 0x5b003080, U 0x9042860, J 0, J 0, U 0, U 0, U 0, U 0, J 0, .t (.seq 2 [[I 14, I 19]]), .t (.seq 2 []), .t (.seq 2 []), .t (.seq 2 []), J 1, J 1, .t (.seq 5 [[I 1, I 1, I 0, I 0, .seq 5 ll26]]), .bool false], .agg [J 15, J 0, J 0, J 0, J 0, .str 0 0, .str 0 0, .str 0 0, .t (.nilS)]], .tup [.agg [.tok 0 1 0 108, .t (.nilS), J 0, J 0, .bool false, J 23, J 2, U 0x64b30f0d, U 0x83a15acf, U 0xda1a5ab1, U 0xaeb326a8, J 2, J 2, J 7, J 21, J 2, U 0x5c992b02, U 0x5051d24f, U 0x58dde3a1, U 0x596fc3c9, J 22, J 2, U 0xe1281e0a, U 0x68df0a78, U 0x1bd6c343, U 0x5a56c340, J 0, J 0, U 0, U 0, U 0, U 0, J 0, .tok 1 2 0 2, .tok 2 2 0 1, .t (.nilS), .tok 3 2 0 0, J 2, J 2, .tok 4 5 0 1, .bool false], .agg [J 0, .str 0 0, J 0, J 0, J 0, J 0, .t (.nilS), J 2]], [.row 1 108 ll100 false, .row 2 2 [[I 14, I 15], [I 19, I 24]] false, .row 2 1 [[I 15, I 19]] true, .row 2 0 [] false, .row 5 1 [[I 1, I 1, I 0, I 0, .seq 5 ll26]] true]⟩]
theorem lc2_4_ok : chkP (lE2.orc 40) 14 lc2_4 = true := by kernel_rfl
/- palimp/play.Do, 99828 operations -/
def lc2_5 : List MP := [
  ⟨[.agg [.t (.seq 1 ll100), .t (.seq 2 []), J 9, J 0, .bool false, J 23, J 2, U 0x64b30f0d, U 0x83a15acf, U 0xda1a5ab1, U 0xaeb326a8, J 2, J 2, J 7, J 21, J 2, U 0x5c992b02, U 0x5051d24f, U 0x58dde3a1, U 0x596fc3c9, J 22, J 2, U 0xe1281e0a, U 0x68df0a78, U 0x1bd6c343, U 0x5a56c340, J 0, J 0, U 0, U 0, U 0, U 0, J 0, .t (.seq 2 [[I 14, I 15], [I 19, I 24]]), .t (.seq 2 [[I 15, I 19]]), .t (.seq 2 []), .t (.seq 2 []), J 2, J 2, .t (.seq 5 [[I 1, I 1, I 0, I 0, .seq 5 ll101]]), .bool false], .agg [J 15, J 0, J 0, J 0, J 0, .str 0 0, .str 0 0, .str 0 0, .t (.nilS)]], .tup [.agg [.tok 0 1 0 108, .tok 1 2 0 9, J 6, J 0, .bool false, J 28, J 3, U 0xd513be73, U 0xf3f7c840, U 0xaad5a86d, U 0x500cee83, J 3, J 2, J 7, J 26, J 3, U 0xe0de5f64, U 0xa00a2402, U 0xece7085b, U 0xab5fc081, J 27, J 3, U 0x3f2bc084, U 0xf5b92005, U 0xb7d2723c, U 0x9b5552a0, J 0, J 0, U 0, U 0, U 0, U 0, J 0, .tok 2 2 0 3, .tok 3 2 0 1, .tok 4 2 0 1, .tok 5 2 0 0, J 3, J 3, .tok 6 5 0 1, .bool false], .agg [J 0, .str 0 0, J 0, J 0, J 0, J 0, .t (.nilS), J 3]], [.row 1 108 ll100 false, .row 2 9 ll128 false, .row 2 3 ll111 false, .row 2 1 [[I 20, I 24]] true, .row 2 1 [[I 15, I 19]] false, .row 2 0 [] false, .row 5 1 [[I 1, I 1, I 0, I 0, .seq 5 ll101]] true]⟩]
theorem lc2_5_ok : chkP (lE2.orc 40) 14 lc2_5 = true := by kernel_rfl
/- palimp/play.Do, 127370 operations -/
def lc2_6 : List MP := [
  ⟨[.agg [.t (.seq 1 ll100), .t (.seq 2 ll128), J 6, J 0, .bool false, J 28, J 3, U 0xd513be73, U 0xf3f7c840, U 0xaad5a86d, U 0x500cee83, J 3, J 2, J 7, J 26, J 3, U 0xe0de5f64, U 0xa00a2402, U 0xece7085b, U 0xab5fc081, J 27, J 3, U 0x3f2bc084, U 0xf5b92005, U 0xb7d2723c, U 0x9b5552a0, J 0, J 0, U 0, U 0, U 0, U 0, J 0, .t (.seq 2 ll111), .t (.seq 2 [[I 20, I 24]]), .t (.seq 2 [[I 15, I 19]]), .t (.seq 2 []), J 3, J 3, .t (.seq 5 [[I 1, I 1, I 0, I 0, .seq 5 ll129]]), .bool false], .agg [J 15, J 0, J 0, J 0, J 0, .str 0 0, .str 0 0, .str 0 0, .t (.nilS)]], .tup [.agg [.tok 0 1 0 108, .tok 1 2 0 18, J 3, J 0, .bool false, J 33, J 4, U 0x977081b3, U 0x907fbb20, U 0x197cb0f2, U 0xc465f18c, J 4, J 2, J 7, J 31, J 4, U 0xc26670b0, U 0xb7dd20b3, U 0xe8c13b3a, U 0xc1bbda04, J 32, J 4, U 0xe1a00f90, U 0xc4fbc4df, U 0xb546b983, U 0x9304d037, J 0, J 0, U 0, U 0, U 0, U 0, J 0, .tok 2 2 0 4, .tok 3 2 0 1, .tok 4 2 0 1, .tok 5 2 0 0, J 4, J 4, .tok 6 5 0 1, .bool false], .agg [J 0, .str 0 0, J 0, J 0, J 0, J 0, .t (.nilS), J 4]], [.row 1 108 ll100 false, .row 2 18 ll159 false, .row 2 4 ll140 false, .row 2 1 [[I 25, I 29]] true, .row 2 1 [[I 20, I 24]] false, .row 2 0 [] false, .row 5 1 [[I 1, I 1, I 0, I 0, .seq 5 ll129]] true]⟩]
theorem lc2_6_ok : chkP (lE2.orc 40) 14 lc2_6 = true := by kernel_rfl
/- palimp/play.Do, 76471 operations -/
def lc2_7 : List MP := [
  ⟨[.agg [.t (.seq 1 ll100), .t (.seq 2 ll159), J 3, J 0, .bool false, J 33, J 4, U 0x977081b3, U 0x907fbb20, U 0x197cb0f2, U 0xc465f18c, J 4, J 2, J 7, J 31, J 4, U 0xc26670b0, U 0xb7dd20b3, U 0xe8c13b3a, U 0xc1bbda04, J 32, J 4, U 0xe1a00f90, U 0xc4fbc4df, U 0xb546b983, U 0x9304d037, J 0, J 0, U 0, U 0, U 0, U 0, J 0, .t (.seq 2 ll140), .t (.seq 2 [[I 25, I 29]]), .t (.seq 2 [[I 20, I 24]]), .t (.seq 2 []), J 4, J 4, .t (.seq 5 [[I 1, I 1, I 0, I 0, .seq 5 ll129]]), .bool false], .agg [J 18, J 0, J 0, J 0, J 0, .str 0 0, .str 0 0, .str 0 0, .t (.nilS)]], .tup [.agg [.tok 0 1 0 108, .tok 1 2 0 18, J 3, J 0, .bool false, J 33, J 4, U 0x977081b3, U 0x907fbb20, U 0x197cb0f2, U 0xc465f18c, J 4, J 2, J 7, J 31, J 4, U 0xc26670b0, U 0xb7dd20b3, U 0xe8c13b3a, U 0xc1bbda04, J 32, J 4, U 0xe1a00f90, U 0xc4fbc4df, U 0xb546b983, U 0x9304d037, J 0, J 0, U 0, U 0, U 0, U 0, J 0, .t (.seq 2 ll140), .t (.seq 2 [[I 25, I 29]]), .t (.seq 2 [[I 20, I 24]]), .t (.nilS), J 4, J 4, .t (.seq 5 [[I 1, I 1, I 0, I 0, .seq 5 ll129]]), .bool false], .agg [J 0, .str 0 0, J 0, J 0, J 0, J 0, .t (.nilS), J 4]], [.row 1 108 ll100 false, .row 2 18 ll159 false]⟩]
theorem lc2_7_ok : chkP (lE2.orc 40) 14 lc2_7 = true := by kernel_rfl
/- palimp/play.Do, 14472 operations -/
def lc2_8 : List MP := [
  ⟨[.agg [.t (.seq 1 ll171), .t (.nilS), J 0, J 0, .bool false, J 0, J 0, U 0, U 0, U 0, U 0, J 0, J 0, J 0, J 0, J 0, U 0, U 0, U 0, U 0, J 0, J 0, U 0, U 0, U 0, U 0, J 0, J 0, U 0, U 0, U 0, U 0, J 0, .t (.nilS), .t (.nilS), .t (.nilS), .t (.nilS), J 0, J 0, .t (.nilS), .bool false], .agg [J 18, J 0, J 0, J 0, J 0, .str 0 0, .str 0 0, .str 0 0, .t (.nilS)]], .tup [.agg [.tok 0 1 0 108, .tok 1 2 0 0, J 0, J 0, .bool false, J 0, J 0, U 0, U 0, U 0, U 0, J 0, J 0, J 0, J 0, J 0, U 0, U 0, U 0, U 0, J 0, J 0, U 0, U 0, U 0, U 0, J 0, J 0, U 0, U 0, U 0, U 0, J 0, .tok 2 2 0 0, .tok 3 2 0 0, .tok 4 2 0 0, .tok 5 2 0 0, J 0, J 0, .tok 6 5 0 0, .bool false], .agg [J 12, .str 0 0, J 0, J 0, J 0, J 0, .t (.nilS), J 0]], [.row 1 108 ll171 false, .row 2 0 [] false, .row 2 0 [] false, .row 2 0 [] false, .row 2 0 [] false, .row 2 0 [] false, .row 5 0 [] false]⟩]
theorem lc2_8_ok : chkP (lE2.orc 40) 14 lc2_8 = true := by kernel_rfl
/- palimp/play.Do, 65701 operations -/
def lc2_9 : List MP := [
  ⟨[.agg [.t (.seq 1 ll171), .t (.seq 2 []), J 0, J 0, .bool false, J 0, J 0, U 0, U 0, U 0, U 0, J 0, J 0, J 0, J 0, J 0, U 0, U 0, U 0, U 0, J 0, J 0, U 0, U 0, U 0, U 0, J 0, J 0, U 0, U 0, U 0, U 0, J 0, .t (.seq 2 []), .t (.seq 2 []), .t (.seq 2 []), .t (.seq 2 []), J 0, J 0, .t (.seq 5 []), .bool false], .agg [J 18, J 0, J 1, J 0, J 0, .str 0 0, .str 0 0, .str 0 0, .t (.nilS)]], .tup [.agg [.tok 0 1 0 108, .tok 1 2 0 0, J 0, J 0, .bool false, J 28, J 3, U 0xd513be73, U 0xf3f7c840, U 0xaad5a86d, U 0x500cee83, J 3, J 2, J 7, J 26, J 3, U 0xe0de5f64, U 0xa00a2402, U 0xece7085b, U 0xab5fc081, J 27, J 3, U 0x3f2bc084, U 0xf5b92005, U 0xb7d2723c, U 0x9b5552a0, J 0, J 0, U 0, U 0, U 0, U 0, J 0, .t (.seq 2 ll111), .t (.seq 2 [[I 20, I 24]]), .t (.seq 2 [[I 15, I 19]]), .t (.nilS), J 3, J 4, .t (.seq 5 [[I 1, I 1, I 0, I 0, .seq 5 ll101]]), .bool false], .agg [J 0, .str 0 0, J 0, J 0, J 0, J 0, .t (.nilS), J 3]], [.row 1 108 ll171 false, .row 2 0 [] false]⟩]
theorem lc2_9_ok : chkP (lE2.orc 40) 14 lc2_9 = true := by kernel_rfl
/- palimp/play.Do, 124463 operations -/
def lc2_10 : List MP := [
  ⟨[.agg [.t (.seq 1 ll171), .t (.seq 2 []), J 0, J 0, .bool false, J 28, J 3, U 0xd513be73, U 0xf3f7c840, U 0xaad5a86d, U 0x500cee83, J 3, J 2, J 7, J 26, J 3, U 0xe0de5f64, U 0xa00a2402, U 0xece7085b, U 0xab5fc081, J 27, J 3, U 0x3f2bc084, U 0xf5b92005, U 0xb7d2723c, U 0x9b5552a0, J 0, J 0, U 0, U 0, U 0, U 0, J 0, .t (.seq 2 ll111), .t (.seq 2 [[I 20, I 24]]), .t (.seq 2 [[I 15, I 19]]), .t (.seq 2 []), J 3, J 4, .t (.seq 5 [[I 1, I 1, I 0, I 0, .seq 5 ll101]]), .bool false], .agg [J 15, J 0, J 0, J 0, J 0, .str 0 0, .str 0 0, .str 0 0, .t (.nilS)]], .tup [.agg [.tok 0 1 0 108, .t (.nilS), J 0, J 0, .bool false, J 31, J 5, U 0xc0a0fee3, U 0x44bd682c, U 0x90b0200e, U 0x946c75a1, J 5, J 2, J 7, J 29, J 5, U 0xe0de5f66, U 0xa00a2480, U 0xece7181b, U 0xab6115c1, J 30, J 5, U 0xe1980399, U 0xc318df0e, U 0x7bbb726b, U 0xed8990d7, J 0, J 0, U 0, U 0, U 0, U 0, J 0, .tok 1 2 0 4, .tok 2 2 0 1, .tok 3 2 0 1, .tok 4 2 0 0, J 4, J 5, .tok 5 5 0 1, .bool false], .agg [J 0, .str 0 0, J 0, J 0, J 0, J 0, .t (.nilS), J 5]], [.row 1 108 ll190 false, .row 2 4 ll173 false, .row 2 1 [[I 26, I 29]] true, .row 2 1 [[I 20, I 24]] false, .row 2 0 [] false, .row 5 1 [[I 1, I 1, I 0, I 0, .seq 5 ll101]] true]⟩]
theorem lc2_10_ok : chkP (lE2.orc 40) 14 lc2_10 = true := by kernel_rfl
noncomputable def lM2 : Memo := ⟨[13, 14], [], [(13, lc2_0), (13, lc2_1), (14, lc2_2), (14, lc2_3), (14, lc2_4), (14, lc2_5), (14, lc2_6), (14, lc2_7), (14, lc2_8), (14, lc2_9), (14, lc2_10)]⟩
noncomputable def lE3 : Env := lE2.withM 40 lM2
theorem lE3_ok : EnvOk Proofs.Tryz.prog lE3 := withM_ok lE2_ok trivial ⟨lc2_0_ok, lc2_1_ok, lc2_2_ok, lc2_3_ok, lc2_4_ok, lc2_5_ok, lc2_6_ok, lc2_7_ok, lc2_8_ok, lc2_9_ok, lc2_10_ok, trivial⟩
theorem run_TopLying0 : isS (lE3.scalN (lE3.orc 39) 7 []) (.bool true) = true := by kernel_rfl
theorem run_TopLying : lE3.scalN (lE3.orc 39) 7 [] = some (.bool true) := isS_eq run_TopLying0
end Go.Top
